/- A part of the proof. -/
import Derived.Test.YtfkbogedodngeaaGreatDoorTc0
import Derived.Test.YtfkbogedodngeaaGreatDoorMm4
import Derived.Test.YtfkbogedodngeaaGreatDoorRows
import Derived.KernelRfl
namespace Go.Dm.Tc
open Go.Proofs
def YG:aI :=
 (oQ [oW 39 (.arith .lss (.t 38) (.t 37))]
 (.seq (.cond (.t 39) .skip (.exit 0))
 (.seq (.block 1 (oQ [oW 40 (.indexAddr 1 (.t 36) (.t 38)),oD 41 40,oM 13 41]
 (.region [oM 42 10,oM 43 13,oL 44 7 5,oW 45 (.build [.int .i64 0,.int .i64 0,.int .i64 0,.int .i64 0,.int .i64 0,.int .i64 0,.nsl,.nsl] [(0,1,.t 43),(1,7,.t 44)]),oW 46 (.buildSlice 206 8 (.agg [.int .i64 0,.int .i64 0,.int .i64 0,.int .i64 0,.int .i64 0,.int .i64 0,.nsl,.nsl]) 1 [(0,.t 45)]),oW 47 (.append 206 8 96 (.t 42) (.t 46)),oM 10 47])))
 (.region [oW 48 (.arith .add (.t 38) (oI 1)),oM 38 48]))))
def YF:aI :=
 (oQ [oW 55 (.arith .lss (.t 54) (.t 53))]
 (.seq (.cond (.t 55) .skip (.exit 2))
 (.seq (.block 3 (oQ [oW 56 (.indexAddr 1 (.t 52) (.t 54)),oD 57 56,oM 15 57]
 (.region [oM 58 11,oM 59 15,oA 60 3 5,oL 61 2 60,oA 62 6 5,oD 63 62,oW 64 (.build [.int .i64 0,.int .i64 0,.int .i64 0,.nsl] [(0,1,.t 59),(1,2,.t 61),(3,1,.t 63)]),oW 65 (.buildSlice 282 4 (.agg [.int .i64 0,.int .i64 0,.int .i64 0,.nsl]) 1 [(0,.t 64)]),oW 66 (.append 282 4 48 (.t 58) (.t 65)),oM 11 66])))
 (.region [oW 67 (.arith .add (.t 54) (oI 1)),oM 54 67]))))
def YI:aI :=
 (oQ [oM 68 10,oM 69 11,oM 6 68,oM 7 69]
 .ret)
def YH:aI :=
 (.seq (oQ [oL 49 6 3,oA 50 6 5,oD 51 50,oW 52 (.call (oF 189) [.t 49,.t 51]),oW 53 (.len 1 (.t 52)),oW 54 (.move (oI 0))]
 (.block 2 (.loop YF)))
 YI)
def t97:aL:={ntmps:=70,results:=[.t 6,.t 7],mode:=.frz,body :=
 (oQ [oW 3 (.box 37 6 (.t 0)),oW 5 (.box 49 7 (.t 2)),oW 6 (.move (.c .nsl)),oW 7 (.move (.c .nsl))]
 (oQ [oL 17 6 3,oA 18 1 5,oL 19 2 18,oW 20 (.call (oF 30) [.t 17,.t 19]),oM 16 20,oX 21 16 0,oX 22 16 1,oW 8 (.alloc 68 4 (.agg [.int .i64 0,.int .i64 0,.nsl,.int .i64 0])),oS 4 8 21,oM 9 22]
 (.seq (oQ [oM 23 9,oW 24 (.un .not (.t 23)),oM 25 24,gA 26 3 8 25 false,gD 27 26 25 false,gM 28 1 25 false,gW 29 (.arith .neq (.t 27) (.t 28)) 25 false,oW 30 (.pick (.t 25) (oB true) (.t 29))]
 (.cond (.t 30) (oQ [oW 6 (.move (.c .nsl)),oW 7 (.move (.c .nsl))]
 .ret) .skip))
 (oQ [oW 10 (.move (.c .nsl))]
 (oQ [oW 11 (.move (.c .nsl))]
 (.seq (oQ [oL 31 6 3,oA 32 1 5,oL 33 2 32,oA 34 6 5,oD 35 34,oW 36 (.call (oF 188) [.t 31,.t 33,.t 35]),oW 37 (.len 1 (.t 36)),oW 38 (.move (oI 0))]
 (.block 0 (.loop YG)))
 YH))))))}
theorem c97:aD Tryz.prog Tryz.f97 .frz=some t97:=by kernel_rfl
def Nt:aL:={ntmps:=22,results:=[.t 4],mode:=.pure,body :=
 (oQ [oW 2 (.box 76 2 (.t 0)),oW 3 (.box 86 2 (.t 1)),oW 4 (.move (oB false))]
 (oQ [oL 5 2 2,oW 6 (.indexArr 2 1 (.t 3) (oI 0)),oD 7 6,oW 8 (.call (oF 190) [.t 5,.t 7]),oM 9 8,gL 10 2 2 9 true,gW 11 (.indexArr 2 1 (.t 3) (oI 1)) 9 true,gD 12 11 9 true,gW 13 (.call (oF 190) [.t 10,.t 12]) 9 true,oW 14 (.pick (.t 9) (.t 13) (oB false)),oM 15 14,gW 16 (.indexArr 2 1 (.t 3) (oI 0)) 15 true,gD 17 16 15 true,gW 18 (.indexArr 2 1 (.t 3) (oI 1)) 15 true,gD 19 18 15 true,gW 20 (.arith .neq (.t 17) (.t 19)) 15 true,oW 21 (.pick (.t 15) (.t 20) (oB false)),oM 4 21]
 .ret))}
theorem c101:aD Tryz.prog Tryz.f101 .pure=some Nt:=by kernel_rfl
def Fw:aL:={ntmps:=17,results:=[.t 4],mode:=.pure,body :=
 (oQ [oW 2 (.box 86 2 (.t 0)),oW 3 (.box 86 2 (.t 1)),oW 4 (.move (oI 0))]
 (.seq (.draw [oR 5 (.indexArr 2 1 (.t 2) (oI 0)),oRD 6 5,oR 7 (.indexArr 2 1 (.t 3) (oI 0)),oRD 8 7,nK 9 (.call (oF 105) [.t 6,.t 8]) .create 0,oR 10 (.indexArr 2 1 (.t 2) (oI 1)),oRD 11 10,oR 12 (.indexArr 2 1 (.t 3) (oI 1)),oRD 13 12,nK 14 (.call (oF 105) [.t 11,.t 13]) .write 1,nK 15 (.buildSlice 3 1 (.int .i64 0) 2 [(0,.t 9),(1,.t 14)]) .create 0,nK 16 (.call (oF 104) [.t 15]) .write 3,nK 4 (.move (.t 16)) .read 4])
 .ret))}
theorem XN:aD Tryz.prog Tryz.f103 .pure=some Fw:=by kernel_rfl
def sW:aI :=
 (oQ [oW 9 (.arith .lss (.t 8) (.t 7))]
 (.seq (.cond (.t 9) .skip (.exit 0))
 (.seq (.block 1 (oQ [oW 10 (.indexAddr 1 (.t 6) (.t 8)),oD 11 10,oM 5 11]
 (oQ [oM 12 5,oM 13 3,oW 14 (.arith .neq (.t 12) (.t 13))]
 (.cond (.t 14) (oQ [oM 15 5,oM 2 15]
 .ret) .skip))))
 (.region [oW 16 (.arith .add (.t 8) (oI 1)),oM 8 16]))))
def Fv:aI :=
 (oQ [oM 17 3,oM 2 17]
 .ret)
def Ca:aL:={ntmps:=18,results:=[.t 2],mode:=.pure,body :=
 (oQ [oW 2 (.move (oI 0))]
 (oQ [oW 3 (.move (oI 0))]
 (.seq (oQ [oM 6 0,oW 7 (.len 1 (.t 6)),oW 8 (.move (oI 0))]
 (.block 0 (.loop sW)))
 Fv)))}
theorem XM:aD Tryz.prog Tryz.f104 .pure=some Ca:=by kernel_rfl
def uR:aL:={ntmps:=20,results:=[.t 4],mode:=.pure,body :=
 (oQ [oW 4 (.move (oI 0))]
 (oQ [oM 7 0,oW 8 (.call (oF 193) [.t 7]),oM 5 8]
 (oQ [oM 9 1,oW 10 (.call (oF 193) [.t 9]),oM 6 10]
 (.seq (oQ [oM 11 5]
 (.cond (.t 11) (.seq (oQ [oM 12 6]
 (.cond (.t 12) (oQ [oW 4 (.move (oI 0))]
 .ret) .skip))
 (oQ [oW 4 (.move (oI (-1)))]
 .ret)) .skip))
 (.seq (oQ [oM 13 6]
 (.cond (.t 13) (oQ [oW 4 (.move (oI 1))]
 .ret) .skip))
 (.seq (oQ [oM 14 0,oM 15 1,oW 16 (.arith .lss (.t 14) (.t 15))]
 (.cond (.t 16) (oQ [oW 4 (.move (oI (-1)))]
 .ret) .skip))
 (.seq (oQ [oM 17 0,oM 18 1,oW 19 (.arith .gtr (.t 17) (.t 18))]
 (.cond (.t 19) (oQ [oW 4 (.move (oI 1))]
 .ret) .skip))
 (oQ [oW 4 (.move (oI 0))]
 .ret))))))))}
theorem XL:aD Tryz.prog Tryz.f105 .pure=some uR:=by kernel_rfl
def UH:aI :=
 (.seq (oQ [oM 29 5,oM 30 4,oW 31 (.len 1 (.t 30)),oW 32 (.arith .lss (.t 29) (.t 31))]
 (.cond (.t 32) .skip (.exit 2)))
 (.seq (.block 3 (.seq (.draw [oRM 35 4,oRM 36 5,oR 37 (.indexAddr 2 (.t 35) (.t 36)),oRL 38 2 37,oRM 39 4,oRM 40 5,oR 41 (.arith .sub (.t 40) (oI 1)),oR 42 (.indexAddr 2 (.t 39) (.t 41)),oRL 43 2 42,oR 44 (.eqa true [1,1] (.t 38) (.t 43))])
 (.cond (.t 44) (oQ [oM 45 0,oM 46 3,oM 47 4,oM 48 5,oW 49 (.indexAddr 2 (.t 47) (.t 48)),oL 50 2 49,oW 51 (.indexAddr 2 (.t 45) (.t 46)),oS 2 51 50]
 (.region [oM 52 3,oW 53 (.arith .add (.t 52) (oI 1)),oM 3 53])) .skip)))
 (.region [oM 33 5,oW 34 (.arith .add (.t 33) (oI 1)),oM 5 34])))
def UI:aI :=
 (oQ [oM 54 0,oM 55 3,oW 56 (.sliceSl 2 (.t 54) (some (.t 55)) none),oZ (.clear 2 (.agg [.int .i64 0,.int .i64 0]) (.t 56))]
 (oQ [oM 57 0,oM 58 3,oW 59 (.sliceSl 2 (.t 57) none (some (.t 58))),oM 2 59]
 .ret))
def FN:aI :=
 (.region [oM 14 3,oW 15 (.arith .add (.t 14) (oI 1)),oM 3 15])
def Ns:aI :=
 (.seq (oQ [oM 10 3,oM 11 0,oW 12 (.len 1 (.t 11)),oW 13 (.arith .lss (.t 10) (.t 12))]
 (.cond (.t 13) .skip (.exit 0)))
 (.seq (.block 1 (.seq (.draw [oRM 16 0,oRM 17 3,oR 18 (.indexAddr 2 (.t 16) (.t 17)),oRL 19 2 18,oRM 20 0,oRM 21 3,oR 22 (.arith .sub (.t 21) (oI 1)),oR 23 (.indexAddr 2 (.t 20) (.t 22)),oRL 24 2 23,oR 25 (.eqa false [1,1] (.t 19) (.t 24))])
 (.cond (.t 25) (oQ [oM 26 0,oM 27 3,oW 28 (.sliceSl 2 (.t 26) (some (.t 27)) none),oM 4 28]
 (.seq (oQ [oW 5 (.move (oI 1))]
 (.block 2 (.loop UH)))
 UI)) .skip)))
 FN))
def Yl:aI :=
 (oQ [oM 60 0,oM 2 60]
 .ret)
def Ry:aL:={ntmps:=61,results:=[.t 2],mode:=.full,body :=
 (oQ [oW 2 (.move (.c .nsl))]
 (.seq (oQ [oM 6 0,oW 7 (.len 1 (.t 6)),oW 8 (.arith .lss (.t 7) (oI 2))]
 (.cond (.t 8) (oQ [oM 9 0,oM 2 9]
 .ret) .skip))
 (.seq (oQ [oW 3 (.move (oI 1))]
 (.block 0 (.loop Ns)))
 Yl)))}
theorem c106:aD Tryz.prog Tryz.f106 .full=some Ry:=by kernel_rfl
def Yk:aL:={ntmps:=26,results:=[(.cell 6 (some 6)),.t 7],mode:=.frz,body :=
 (oQ [oW 3 (.box 37 6 (.t 0)),oW 5 (.box 45 2 (.t 2)),oW 6 (.alloc 37 6 (.agg [.int .i64 0,.nsl,.nsl,.nsl,.nsl,.nsl])),oW 7 (.move (.c .nsl))]
 (oQ [oL 11 6 3,oL 12 2 5,oM 13 1,oW 14 (.call (oF 213) [.t 11,.t 12,.t 13]),oM 10 14,oX 15 10 0,oX 16 10 1,oW 8 (.alloc 37 6 (.agg [.int .i64 0,.nsl,.nsl,.nsl,.nsl,.nsl])),oS 6 8 15,oM 9 16]
 (.seq (oQ [oM 17 9,oW 18 (.un .not (.t 17))]
 (.cond (.t 18) (oQ [oL 19 6 3,oS 6 6 19,oW 7 (.move (.c .nsl))]
 .ret) .skip))
 (.seq (.draw [oRL 20 6 8,oRL 21 6 3,oRL 23 2 5,oRM 22 1,oR 24 (.build [.int .i64 0,.int .i64 0,.int .i64 0,.int .i64 0,.int .i64 0,.nsl,.nsl] [(0,1,oI 2),(1,2,.t 23)]),nK 25 (.call (oF 175) [.t 21,.t 22,.t 24]) .create 0,⟨none,.store 6 (.t 6) (.t 20),none,.write,1,false⟩,nK 7 (.move (.t 25)) .read 2])
 .ret))))}
theorem c134:aD Tryz.prog Tryz.f134 .frz=some Yk:=by kernel_rfl
def k6:aL:={ntmps:=20,results:=[(.cell 6 (some 6)),.t 7],mode:=.frz,body :=
 (oQ [oW 3 (.box 37 6 (.t 0)),oW 5 (.box 49 7 (.t 2)),oW 6 (.alloc 37 6 (.agg [.int .i64 0,.nsl,.nsl,.nsl,.nsl,.nsl])),oW 7 (.move (.c .nsl))]
 (oQ [oL 8 6 3,oA 9 1 5,oL 10 2 9,oA 11 3 5,oL 12 2 11,oA 13 5 5,oD 14 13,oM 15 1,oW 16 (.build [.int .i64 0,.int .i64 0,.int .i64 0,.int .i64 0,.nsl,.int .i64 0,.bool false] [(0,2,.t 10),(2,2,.t 12),(4,1,.t 14),(5,1,.t 15)]),oW 17 (.call (oF 187) [.t 8,.t 16]),oX 18 17 0,oX 19 17 1,oS 6 6 18,oM 7 19]
 .ret))}
theorem c135:aD Tryz.prog Tryz.f135 .frz=some k6:=by kernel_rfl
def j9:aL:={ntmps:=17,results:=[(.cell 6 (some 6)),.t 7],mode:=.frz,body :=
 (oQ [oW 3 (.box 37 6 (.t 0)),oW 5 (.box 49 7 (.t 2)),oW 6 (.alloc 37 6 (.agg [.int .i64 0,.nsl,.nsl,.nsl,.nsl,.nsl])),oW 7 (.move (.c .nsl))]
 (oQ [oL 8 6 3,oA 9 1 5,oL 10 2 9,oA 11 3 5,oL 12 2 11,oM 13 1,oW 14 (.call (oF 214) [.t 8,.t 10,.t 12,.t 13]),oX 15 14 0,oX 16 14 1,oS 6 6 15,oM 7 16]
 .ret))}
theorem c136:aD Tryz.prog Tryz.f136 .frz=some j9:=by kernel_rfl
def Nq:aI :=
 (.seq (oQ [oM 29 5,oM 30 4,oW 31 (.len 1 (.t 30)),oW 32 (.arith .lss (.t 29) (.t 31))]
 (.cond (.t 32) .skip (.exit 2)))
 (.seq (.block 3 (.seq (.draw [oRM 35 4,oRM 36 5,oR 37 (.indexAddr 1 (.t 35) (.t 36)),oRD 38 37,oRM 39 4,oRM 40 5,oR 41 (.arith .sub (.t 40) (oI 1)),oR 42 (.indexAddr 1 (.t 39) (.t 41)),oRD 43 42,oR 44 (.arith .neq (.t 38) (.t 43))])
 (.cond (.t 44) (oQ [oM 45 0,oM 46 3,oM 47 4,oM 48 5,oW 49 (.indexAddr 1 (.t 47) (.t 48)),oD 50 49,oW 51 (.indexAddr 1 (.t 45) (.t 46)),oS 1 51 50]
 (.region [oM 52 3,oW 53 (.arith .add (.t 52) (oI 1)),oM 3 53])) .skip)))
 (.region [oM 33 5,oW 34 (.arith .add (.t 33) (oI 1)),oM 5 34])))
def FM:aI :=
 (oQ [oM 54 0,oM 55 3,oW 56 (.sliceSl 1 (.t 54) (some (.t 55)) none),oZ (.clear 1 (.int .i64 0) (.t 56))]
 (oQ [oM 57 0,oM 58 3,oW 59 (.sliceSl 1 (.t 57) none (some (.t 58))),oM 2 59]
 .ret))
def FL:aI :=
 (.region [oM 14 3,oW 15 (.arith .add (.t 14) (oI 1)),oM 3 15])
def Np:aI :=
 (.seq (oQ [oM 10 3,oM 11 0,oW 12 (.len 1 (.t 11)),oW 13 (.arith .lss (.t 10) (.t 12))]
 (.cond (.t 13) .skip (.exit 0)))
 (.seq (.block 1 (.seq (.draw [oRM 16 0,oRM 17 3,oR 18 (.indexAddr 1 (.t 16) (.t 17)),oRD 19 18,oRM 20 0,oRM 21 3,oR 22 (.arith .sub (.t 21) (oI 1)),oR 23 (.indexAddr 1 (.t 20) (.t 22)),oRD 24 23,oR 25 (.arith .eql (.t 19) (.t 24))])
 (.cond (.t 25) (oQ [oM 26 0,oM 27 3,oW 28 (.sliceSl 1 (.t 26) (some (.t 27)) none),oM 4 28]
 (.seq (oQ [oW 5 (.move (oI 1))]
 (.block 2 (.loop Nq)))
 FM)) .skip)))
 FL))
def Yj:aI :=
 (oQ [oM 60 0,oM 2 60]
 .ret)
def Nr:aL:={ntmps:=61,results:=[.t 2],mode:=.full,body :=
 (oQ [oW 2 (.move (.c .nsl))]
 (.seq (oQ [oM 6 0,oW 7 (.len 1 (.t 6)),oW 8 (.arith .lss (.t 7) (oI 2))]
 (.cond (.t 8) (oQ [oM 9 0,oM 2 9]
 .ret) .skip))
 (.seq (oQ [oW 3 (.move (oI 1))]
 (.block 0 (.loop Np)))
 Yj)))}
theorem c143:aD Tryz.prog Tryz.f143 .full=some Nr:=by kernel_rfl
def j8:aL:={ntmps:=9,results:=[.t 4],mode:=.pure,body :=
 (oQ [oW 2 (.box 45 2 (.t 0)),oW 3 (.box 45 2 (.t 1)),oW 4 (.move (oB false))]
 (oQ [oL 5 2 2,oL 6 2 3,oW 7 (.call (oF 154) [.t 5,.t 6]),oW 8 (.arith .lss (.t 7) (oI 0)),oM 4 8]
 .ret))}
theorem c147:aD Tryz.prog Tryz.f147 .pure=some j8:=by kernel_rfl
def X9:aL:={ntmps:=17,results:=[.t 4],mode:=.pure,body :=
 (oQ [oW 2 (.box 45 2 (.t 0)),oW 3 (.box 45 2 (.t 1)),oW 4 (.move (oI 0))]
 (.seq (.draw [oRA 5 0 2,oRD 6 5,oRA 7 0 3,oRD 8 7,nK 9 (.call (oF 105) [.t 6,.t 8]) .create 0,oRA 10 1 2,oRD 11 10,oRA 12 1 3,oRD 13 12,nK 14 (.call (oF 105) [.t 11,.t 13]) .write 1,nK 15 (.buildSlice 3 1 (.int .i64 0) 2 [(0,.t 9),(1,.t 14)]) .create 0,nK 16 (.call (oF 104) [.t 15]) .write 3,nK 4 (.move (.t 16)) .read 4])
 .ret))}
theorem c154:aD Tryz.prog Tryz.f154 .pure=some X9:=by kernel_rfl
def j7:aL:={ntmps:=9,results:=[.t 4],mode:=.pure,body :=
 (oQ [oW 4 (.move (oB false))]
 (oQ [oM 5 0,oM 6 1,oW 7 (.call (oF 222) [.t 5,.t 6]),oW 8 (.arith .geq (.t 7) (oI 0)),oM 4 8]
 .ret))}
theorem c159:aD Tryz.prog Tryz.f159 .pure=some j7:=by kernel_rfl
def j6:aL:={ntmps:=12,results:=[.t 6],mode:=.pure,body :=
 (oQ [oW 3 (.box 37 6 (.t 0)),oW 4 (.box 45 2 (.t 1)),oW 5 (.box 46 1 (.t 2)),oW 6 (.move (oB false))]
 (oQ [oL 7 6 3,oL 8 2 4,oW 9 (.call (oF 224) [.t 7,.t 8]),oW 10 (.makeFunc 225 [.t 5]),oW 11 (.call (oF 159) [.t 9,.t 10]),oM 6 11]
 .ret))}
theorem c164:aD Tryz.prog Tryz.f164 .pure=some j6:=by kernel_rfl
def Yi:aL:={ntmps:=14,results:=[(.cell 2 (some 2))],mode:=.pure,body :=
 (oQ [oW 1 (.box 86 2 (.t 0)),oW 2 (.alloc 86 2 (.agg [.int .i64 0,.int .i64 0]))]
 (oQ [oW 3 (.indexArr 2 1 (.t 1) (oI 0)),oD 4 3,oW 5 (.indexArr 2 1 (.t 1) (oI 1)),oD 6 5,oW 7 (.minmax false (.t 4) (.t 6)),oW 8 (.indexArr 2 1 (.t 1) (oI 0)),oD 9 8,oW 10 (.indexArr 2 1 (.t 1) (oI 1)),oD 11 10,oW 12 (.minmax true (.t 9) (.t 11)),oW 13 (.build [.int .i64 0,.int .i64 0] [(0,1,.t 7),(1,1,.t 12)]),oS 2 2 13]
 .ret))}
theorem c171:aD Tryz.prog Tryz.f171 .pure=some Yi:=by kernel_rfl
def Nn:aI :=
 (oQ [oW 28 (.arith .lss (.t 27) (.t 26))]
 (.seq (.cond (.t 28) .skip (.exit 2))
 (.seq (.block 3 (oQ [oW 29 (.indexAddr 1 (.t 25) (.t 27)),oD 30 29,oM 8 30]
 (oQ [oM 32 5,oM 33 8,oW 34 (.lookup (.prim 1) (.int .i64 0) true (.t 32) (.t 33)),oM 31 34,oX 35 31 0,oX 36 31 1,oM 9 35,oM 10 36]
 (oQ [oM 37 10,oW 38 (.un .not (.t 37))]
 (.cond (.t 38) (oQ [oM 39 5,oM 40 8,oM 41 5,oM 42 6,oW 43 (.indexAddr 1 (.t 42) (oI 0)),oD 44 43,oW 45 (.lookup (.prim 1) (.int .i64 0) false (.t 41) (.t 44)),oW 46 (.arith .add (.t 45) (oI 1)),oZ (.mapUpdate (.prim 1) (.t 39) (.t 40) (.t 46))]
 (.region [oM 47 6,oM 48 8,oW 49 (.buildSlice 3 1 (.int .i64 0) 1 [(0,.t 48)]),oW 50 (.append 3 1 8 (.t 47) (.t 49)),oM 6 50])) .skip)))))
 (.region [oW 51 (.arith .add (.t 27) (oI 1)),oM 27 51]))))
def FJ:aI :=
 (.region [oM 19 6,oW 20 (.sliceSl 1 (.t 19) (some (oI 1)) none),oM 6 20])
def Yh:aI :=
 (.seq (oQ [oM 16 6,oW 17 (.len 1 (.t 16)),oW 18 (.arith .gtr (.t 17) (oI 0))]
 (.cond (.t 18) .skip (.exit 0)))
 (.seq (.block 1 (.seq (.draw [oRL 21 2 2,oRM 22 6,oR 23 (.indexAddr 1 (.t 22) (oI 0)),oRD 24 23,oW 25 (.call (oF 76) [.t 21,.t 24]),nK 26 (.len 1 (.t 25)) .read 1,oR 27 (.move (oI 0))])
 (.block 2 (.loop Nn))))
 FJ))
def No:aI :=
 (oQ [oM 52 5,oM 4 52]
 .ret)
def FK:aL:={ntmps:=53,results:=[.t 4],mode:=.full,body :=
 (oQ [oW 2 (.box 76 2 (.t 0)),oW 4 (.move (.c .nmap))]
 (oQ [oW 11 (.makeMap),oM 12 1,oZ (.mapUpdate (.prim 1) (.t 11) (.t 12) (oI 0)),oM 13 11,oM 5 13]
 (.seq (oQ [oM 14 1,oW 15 (.buildSlice 3 1 (.int .i64 0) 1 [(0,.t 14)]),oM 6 15]
 (.block 0 (.loop Yh)))
 No)))}
theorem c172:aD Tryz.prog Tryz.f172 .full=some FK:=by kernel_rfl
def X8:aL:={ntmps:=44,results:=[(.cell 4 (some 6)),.t 5],mode:=.frz,body :=
 (oQ [oW 2 (.box 37 6 (.t 0)),oW 3 (.box 68 4 (.t 1)),oW 4 (.alloc 37 6 (.agg [.int .i64 0,.nsl,.nsl,.nsl,.nsl,.nsl])),oW 5 (.move (oB false))]
 (oQ [oL 10 6 2,oW 11 (.call (oF 233) [.t 10]),oS 6 2 11]
 (oQ [oL 13 6 2,oA 14 0 3,oL 15 2 14,oW 16 (.call (oF 220) [.t 13,.t 15]),oM 12 16,oX 17 12 0,oX 18 12 1,oM 6 17,oM 7 18]
 (.seq (oQ [oM 19 7]
 (.cond (.t 19) (oQ [oL 20 6 2,oS 6 4 20,oW 5 (.move (oB false))]
 .ret) .skip))
 (oQ [oL 22 6 2,oA 23 0 3,oL 24 2 23,oW 25 (.call (oF 86) [.t 22,.t 24]),oM 21 25,oX 26 21 0,oX 27 21 1,oM 8 26,oM 9 27]
 (oQ [oA 28 2 2,oD 29 28,oM 30 8,oL 31 4 3,oW 32 (.buildSlice 68 4 (.agg [.int .i64 0,.int .i64 0,.nsl,.int .i64 0]) 1 [(0,.t 31)]),oW 33 (.call (oF 234) [.t 29,.t 30,.t 32]),oA 34 2 2,oS 1 34 33]
 (oQ [oA 35 3 2,oD 36 35,oM 37 6,oA 38 0 3,oL 39 2 38,oW 40 (.buildSlice 45 2 (.agg [.int .i64 0,.int .i64 0]) 1 [(0,.t 39)]),oW 41 (.call (oF 235) [.t 36,.t 37,.t 40]),oA 42 3 2,oS 1 42 41]
 (oQ [oL 43 6 2,oS 6 4 43,oW 5 (.move (oB true))]
 .ret))))))))}
theorem c174:aD Tryz.prog Tryz.f174 .frz=some X8:=by kernel_rfl
def Nm:aI :=
 (oQ [oW 14 (.arith .lss (.t 13) (.t 12))]
 (.seq (.cond (.t 14) .skip (.exit 0))
 (.seq (.block 1 (oQ [oW 15 (.indexAddr 1 (.t 11) (.t 13)),oD 16 15,oM 9 16]
 (oQ [oM 17 9,oM 18 1,oW 19 (.arith .neq (.t 17) (.t 18))]
 (.cond (.t 19) (.region [oM 20 7,oM 21 9,oL 22 7 5,oW 23 (.build [.int .i64 0,.int .i64 0,.int .i64 0,.int .i64 0,.int .i64 0,.int .i64 0,.nsl,.nsl] [(0,1,.t 21),(1,7,.t 22)]),oW 24 (.buildSlice 206 8 (.agg [.int .i64 0,.int .i64 0,.int .i64 0,.int .i64 0,.int .i64 0,.int .i64 0,.nsl,.nsl]) 1 [(0,.t 23)]),oW 25 (.append 206 8 96 (.t 20) (.t 24)),oM 7 25]) .skip))))
 (.region [oW 26 (.arith .add (.t 13) (oI 1)),oM 13 26]))))
def Yg:aI :=
 (oQ [oM 27 7,oM 6 27]
 .ret)
def FI:aL:={ntmps:=28,results:=[.t 6],mode:=.full,body :=
 (oQ [oW 3 (.box 37 6 (.t 0)),oW 5 (.box 49 7 (.t 2)),oW 6 (.move (.c .nsl))]
 (oQ [oW 7 (.move (.c .nsl))]
 (.seq (oQ [oA 10 1 3,oD 11 10,oW 12 (.len 1 (.t 11)),oW 13 (.move (oI 0))]
 (.block 0 (.loop Nm)))
 Yg)))}
theorem c175:aD Tryz.prog Tryz.f175 .full=some FI:=by kernel_rfl
def i8:aL:={ntmps:=14,results:=[.t 4],mode:=.pure,body :=
 (oQ [oW 4 (.move (oB false))]
 (oQ [oM 8 0,oM 9 1,oW 10 (.call (oF 236) [.t 8,.t 9]),oM 7 10,oX 11 7 0,oX 12 7 1,oM 5 11,oM 6 12]
 (oQ [oM 13 6,oM 4 13]
 .ret)))}
theorem c176:aD Tryz.prog Tryz.f176 .pure=some i8:=by kernel_rfl
def i7:aL:={ntmps:=73,results:=[(.cell 4 (some 6)),.t 5],mode:=.frz,body :=
 (oQ [oW 2 (.box 37 6 (.t 0)),oW 3 (.box 70 7 (.t 1)),oW 4 (.alloc 37 6 (.agg [.int .i64 0,.nsl,.nsl,.nsl,.nsl,.nsl])),oW 5 (.move (oB false))]
 (oQ [oA 11 4 2,oD 12 11,oW 13 (.call (oF 91) [.t 12]),oA 14 4 2,oS 1 14 13]
 (oQ [oL 16 6 2,oA 17 0 3,oL 18 2 17,oW 19 (.call (oF 30) [.t 16,.t 18]),oM 15 19,oX 20 15 0,oX 21 15 1,oW 6 (.alloc 68 4 (.agg [.int .i64 0,.int .i64 0,.nsl,.int .i64 0])),oS 4 6 20,oM 7 21]
 (oQ [oL 23 6 2,oA 24 0 3,oL 25 2 24,oA 26 2 3,oL 27 2 26,oW 28 (.call (oF 237) [.t 23,.t 25,.t 27]),oM 22 28,oX 29 22 0,oX 30 22 1,oM 8 29,oM 9 30]
 (oQ [oA 31 3 6,oD 32 31,oW 33 (.arith .eql (.t 32) (oI (-1))),oM 10 33]
 (.seq (oQ [oM 34 7,oW 35 (.un .not (.t 34)),oM 36 35,gM 37 9 36 false,oW 38 (.pick (.t 36) (oB true) (.t 37)),oM 39 38,gA 40 5 3 39 false,gD 41 40 39 false,gA 42 3 6 39 false,gD 43 42 39 false,gW 44 (.arith .eql (.t 41) (.t 43)) 39 false,gM 45 44 39 false,gM 46 10 45 true,gW 47 (.un .not (.t 46)) 45 true,gW 48 (.pick (.t 45) (.t 47) (oB false)) 39 false,oW 49 (.pick (.t 39) (oB true) (.t 48))]
 (.cond (.t 49) (oQ [oL 50 6 2,oS 6 4 50,oW 5 (.move (oB false))]
 .ret) .skip))
 (oQ [oM 51 10,oW 52 (.un .not (.t 51)),oM 53 52,gL 54 6 2 53 true,gA 55 0 3 53 true,gL 56 2 55 53 true,gA 57 4 3 53 true,gD 58 57 53 true,gW 59 (.call (oF 164) [.t 54,.t 56,.t 58]) 53 true,gW 60 (.un .not (.t 59)) 53 true,oW 61 (.pick (.t 53) (.t 60) (oB false)),oA 62 6 3,oS 1 62 61]
 (oQ [oA 63 4 2,oD 64 63,oM 65 8,oL 66 7 3,oW 67 (.buildSlice 70 7 (.agg [.int .i64 0,.int .i64 0,.int .i64 0,.int .i64 0,.nsl,.int .i64 0,.bool false]) 1 [(0,.t 66)]),oW 68 (.call (oF 238) [.t 64,.t 65,.t 67]),oA 69 4 2,oS 1 69 68]
 (.seq (.draw [⟨(some 70),.load (some 6) (.t 2),none,.read,0,true⟩,oRA 71 6 3,oRD 72 71,⟨none,.store 6 (.t 4) (.t 70),none,.create,0,false⟩,nK 5 (.move (.t 72)) .read 1])
 .ret)))))))))}
theorem c177:aD Tryz.prog Tryz.f177 .frz=some i7:=by kernel_rfl
def i6:aL:={ntmps:=10,results:=[(.cell 2 (some 7))],mode:=.pure,body :=
 (oQ [oW 1 (.box 70 7 (.t 0)),oW 2 (.alloc 49 7 (.agg [.int .i64 0,.int .i64 0,.int .i64 0,.int .i64 0,.int .i64 0,.nsl,.nsl]))]
 (oQ [oA 3 0 1,oL 4 2 3,oA 5 2 1,oL 6 2 5,oA 7 4 1,oD 8 7,oW 9 (.build [.int .i64 0,.int .i64 0,.int .i64 0,.int .i64 0,.int .i64 0,.nsl,.nsl] [(0,1,oI 3),(1,2,.t 4),(3,2,.t 6),(5,1,.t 8)]),oS 7 2 9]
 .ret))}
theorem c178:aD Tryz.prog Tryz.f178 .pure=some i6:=by kernel_rfl
def d8:aL:={ntmps:=6,results:=[.t 2],mode:=.full,body :=
 (oQ [oW 2 (.move (.c .nili))]
 (oQ [oM 3 0,oW 4 (.makeIface 57 (oI 8)),oW 5 (.call (oF 49) [(.c (.str [113,117,101,117,101])),.t 3,.t 4]),oM 2 5]
 .ret))}
theorem c181:aD Tryz.prog Tryz.f181 .full=some d8:=by kernel_rfl
def FH:aL:={ntmps:=34,results:=[.t 8],mode:=.full,body :=
 (oQ [oW 8 (.move (.c .nili))]
 (.seq (oQ [oM 10 0,oM 11 1,oM 12 2,oW 13 (.call (oF 239) [.t 10,.t 11,.t 12]),oW 14 (.un .not (.t 13))]
 (.cond (.t 14) (oQ [oM 15 1,oW 16 (.call (oF 181) [.t 15]),oM 8 16]
 .ret) .skip))
 (oQ [oM 17 1,oM 18 2,oW 19 (.build [.int .i64 0,.int .i64 0] [(0,1,.t 17),(1,1,.t 18)]),oW 9 (.alloc 86 2 (.agg [.int .i64 0,.int .i64 0])),oS 2 9 19]
 (.seq (.draw [oRM 20 0,oR 21 (.nilCheck (.t 20)),oRA 22 1 21,oRD 23 22,oRL 24 2 9,oRM 25 0,oR 26 (.nilCheck (.t 25)),oRA 27 1 26,oRD 28 27,oRL 29 2 9,oR 30 (.lookup (.agg [1,1]) .nsl false (.t 28) (.t 29)),oRM 31 3,nK 32 (.buildSlice 84 1 .nsl 2 [(0,.t 30),(1,.t 31)]) .create 0,nK 33 (.call (oF 240) [.t 32]) .create 0,⟨none,.mapUpdate (.agg [1,1]) (.t 23) (.t 24) (.t 33),none,.write,2,false⟩])
 (oQ [oW 8 (.move (.c .nili))]
 .ret)))))}
theorem c182:aD Tryz.prog Tryz.f182 .full=some FH:=by kernel_rfl
def Yf:aI :=
 (.seq (oQ [oM 15 9,oM 16 10,oW 17 (.arith .lss (.t 15) (.t 16))]
 (.cond (.t 17) .skip (.exit 0)))
 (.block 1 (oQ [oM 18 9,oM 19 10,oW 20 (.arith .add (.t 18) (.t 19)),oW 21 (.conv .u64 (.t 20)),oW 22 (.arith .shr (.t 21) (.c (.int .u64 1))),oW 23 (.conv .i64 (.t 22)),oM 11 23]
 (.seq (.draw [oRM 25 0,oRM 26 11,oR 27 (.indexAddr 4 (.t 25) (.t 26)),oRL 28 4 27,oRL 29 2 4,oRM 24 2,oW 30 (.call (.t 24) [.t 28,.t 29]),nK 31 (.arith .lss (.t 30) (oI 0)) .read 1])
 (.cond (.t 31) (.region [oM 32 11,oW 33 (.arith .add (.t 32) (oI 1)),oM 9 33]) (.region [oM 34 11,oM 10 34]))))))
def Nl:aI :=
 (.seq (.draw [oRM 36 9,oRM 37 8,oR 38 (.arith .lss (.t 36) (.t 37)),oRM 39 38,rM 41 0 39 true,rM 42 9 39 true,rW 43 (.indexAddr 4 (.t 41) (.t 42)) 39 true,rL 44 4 43 39 true,rL 45 2 4 39 true,rM 40 2 39 true,gW 46 (.call (.t 40) [.t 44,.t 45]) 39 true,oRM 35 9,⟨(some 47),.arith .eql (.t 46) (oI 0),(some (39,true)),.read,1,false⟩,nK 48 (.pick (.t 39) (.t 47) (oB false)) .read 1,nK 6 (.move (.t 35)) .read 1,nK 7 (.move (.t 48)) .read 1])
 .ret)
def X6:aL:={ntmps:=49,results:=[.t 6,.t 7],mode:=.pure,body :=
 (oQ [oW 4 (.box 45 2 (.t 1)),oW 6 (.move (oI 0)),oW 7 (.move (oB false))]
 (oQ [oM 12 0,oW 13 (.len 1 (.t 12)),oM 8 13]
 (oQ [oM 14 8,oW 9 (.move (oI 0)),oM 10 14]
 (.seq (.block 0 (.loop Yf))
 Nl))))}
theorem c183:aD Tryz.prog Tryz.f183 .pure=some X6:=by kernel_rfl
def X5:aL:={ntmps:=9,results:=[.t 4],mode:=.pure,body :=
 (oQ [oW 2 (.box 68 4 (.t 0)),oW 3 (.box 45 2 (.t 1)),oW 4 (.move (oI 0))]
 (oQ [oA 5 0 2,oL 6 2 5,oL 7 2 3,oW 8 (.call (oF 154) [.t 6,.t 7]),oM 4 8]
 .ret))}
theorem c184:aD Tryz.prog Tryz.f184 .pure=some X5:=by kernel_rfl
def d7:aL:={ntmps:=12,results:=[.t 4,.t 5],mode:=.pure,body :=
 (oQ [oW 2 (.box 37 6 (.t 0)),oW 3 (.box 45 2 (.t 1)),oW 4 (.move (oI 0)),oW 5 (.move (oB false))]
 (oQ [oA 6 5 2,oD 7 6,oL 8 2 3,oW 9 (.call (oF 241) [.t 7,.t 8,oF 242]),oX 10 9 0,oX 11 9 1,oM 4 10,oM 5 11]
 .ret))}
theorem c185:aD Tryz.prog Tryz.f185 .pure=some d7:=by kernel_rfl
def UG:aL:={ntmps:=95,results:=[.t 6],mode:=.split,body :=
 (oQ [oW 6 (.move (.c .nsl))]
 (oQ [oM 10 0,oM 11 1,oW 12 (.sliceSl 3 (.t 10) (some (.t 11)) none)]
 (oQ [oM 13 2,oW 14 (.len 1 (.t 13)),oM 7 14]
 (.seq (oQ [oM 15 7,oW 16 (.arith .eql (.t 15) (oI 0))]
 (.cond (.t 16) (oQ [oM 17 0,oM 6 17]
 .ret) .skip))
 (oQ [oM 18 0,oW 19 (.len 1 (.t 18)),oM 8 19]
 (.seq (oQ [oM 20 1,oM 21 8,oW 22 (.arith .eql (.t 20) (.t 21))]
 (.cond (.t 22) (oQ [oM 23 0,oM 24 2,oW 25 (.append 134 3 40 (.t 23) (.t 24)),oM 6 25]
 .ret) .skip))
 (.seq (oQ [oM 26 8,oM 27 7,oW 28 (.arith .add (.t 26) (.t 27)),oM 29 0,oW 30 (.cap (.t 29)),oW 31 (.arith .gtr (.t 28) (.t 30))]
 (.cond (.t 31) (oQ [oM 32 0,oM 33 1,oW 34 (.sliceSl 3 (.t 32) none (some (.t 33))),oM 35 8,oM 36 7,oW 37 (.arith .add (.t 35) (.t 36)),oM 38 1,oW 39 (.arith .sub (.t 37) (.t 38)),oW 40 (.appendZ 134 3 40 (.agg [.int .i64 0,.int .i64 0,.nsl]) (.t 34) (.t 39)),oM 9 40]
 (oQ [oM 41 9,oM 42 1,oW 43 (.sliceSl 3 (.t 41) (some (.t 42)) none),oM 44 2,oW 45 (.copy 3 (.t 43) (.t 44))]
 (.seq (.draw [oRM 46 9,oRM 47 1,oRM 48 7,oR 49 (.arith .add (.t 47) (.t 48)),oR 50 (.sliceSl 3 (.t 46) (some (.t 49)) none),oRM 51 0,oRM 52 1,oR 53 (.sliceSl 3 (.t 51) (some (.t 52)) none),oW 54 (.copy 3 (.t 50) (.t 53))])
 (oQ [oM 55 9,oM 6 55]
 .ret)))) .skip))
 (oQ [oM 56 0,oM 57 8,oM 58 7,oW 59 (.arith .add (.t 57) (.t 58)),oW 60 (.sliceSl 3 (.t 56) none (some (.t 59))),oM 0 60]
 (.seq (oQ [oM 61 2,oM 62 0,oM 63 1,oM 64 7,oW 65 (.arith .add (.t 63) (.t 64)),oW 66 (.sliceSl 3 (.t 62) (some (.t 65)) none),oW 67 (.call (oF 243) [.t 61,.t 66]),oW 68 (.un .not (.t 67))]
 (.cond (.t 68) (.seq (.draw [oRM 69 0,oRM 70 1,oRM 71 7,oR 72 (.arith .add (.t 70) (.t 71)),oR 73 (.sliceSl 3 (.t 69) (some (.t 72)) none),oRM 74 0,oRM 75 1,oR 76 (.sliceSl 3 (.t 74) (some (.t 75)) none),oW 77 (.copy 3 (.t 73) (.t 76))])
 (oQ [oM 78 0,oM 79 1,oW 80 (.sliceSl 3 (.t 78) (some (.t 79)) none),oM 81 2,oW 82 (.copy 3 (.t 80) (.t 81))]
 (oQ [oM 83 0,oM 6 83]
 .ret))) .skip))
 (oQ [oM 84 0,oM 85 8,oW 86 (.sliceSl 3 (.t 84) (some (.t 85)) none),oM 87 2,oW 88 (.copy 3 (.t 86) (.t 87))]
 (oQ [oM 89 0,oM 90 1,oW 91 (.sliceSl 3 (.t 89) (some (.t 90)) none),oM 92 7,oW 93 (.call (oF 244) [.t 91,.t 92])]
 (oQ [oM 94 0,oM 6 94]
 .ret))))))))))))}
theorem c186:aD Tryz.prog Tryz.f186 .split=some UG:=by kernel_rfl
def d6:aL:={ntmps:=32,results:=[(.cell 4 (some 6)),.t 5],mode:=.frz,body :=
 (oQ [oW 2 (.box 37 6 (.t 0)),oW 3 (.box 70 7 (.t 1)),oW 4 (.alloc 37 6 (.agg [.int .i64 0,.nsl,.nsl,.nsl,.nsl,.nsl])),oW 5 (.move (.c .nsl))]
 (oQ [oL 10 6 2,oA 11 0 3,oL 12 2 11,oW 13 (.call (oF 30) [.t 10,.t 12]),oM 9 13,oX 14 9 0,oX 15 9 1,oW 6 (.alloc 68 4 (.agg [.int .i64 0,.int .i64 0,.nsl,.int .i64 0])),oS 4 6 14,oM 7 15]
 (oQ [oL 17 6 2,oL 18 7 3,oW 19 (.call (oF 177) [.t 17,.t 18]),oM 16 19,oX 20 16 0,oX 21 16 1,oS 6 2 20,oM 8 21]
 (.seq (oQ [oM 22 8,oW 23 (.un .not (.t 22))]
 (.cond (.t 23) (oQ [oL 24 6 2,oS 6 4 24,oW 5 (.move (.c .nsl))]
 .ret) .skip))
 (.seq (.draw [oRL 25 6 2,oRA 26 3 6,oRD 27 26,⟨(some 28),.load (some 7) (.t 3),none,.read,0,true⟩,nK 29 (.call (oF 178) [.t 28]) .create 0,⟨none,.store 6 (.t 4) (.t 25),none,.create,0,false⟩,nK 30 (.build [.int .i64 0,.int .i64 0,.int .i64 0,.int .i64 0,.int .i64 0,.int .i64 0,.nsl,.nsl] [(0,1,.t 27),(1,7,.t 29)]) .read 1,nK 31 (.buildSlice 206 8 (.agg [.int .i64 0,.int .i64 0,.int .i64 0,.int .i64 0,.int .i64 0,.int .i64 0,.nsl,.nsl]) 1 [(0,.t 30)]) .create 0,nK 5 (.move (.t 31)) .read 3])
 .ret)))))}
theorem c187:aD Tryz.prog Tryz.f187 .frz=some d6:=by kernel_rfl
def UE:aI :=
 (oQ [oW 15 (.arith .lss (.t 14) (.t 13))]
 (.seq (.cond (.t 15) .skip (.exit 0))
 (.seq (.block 1 (oQ [oW 16 (.indexAddr 7 (.t 12) (.t 14)),oL 17 7 16,oW 9 (.alloc 70 7 (.agg [.int .i64 0,.int .i64 0,.int .i64 0,.int .i64 0,.nsl,.int .i64 0,.bool false])),oS 7 9 17]
 (oQ [oA 18 5 9,oD 19 18,oW 20 (.arith .neq (.t 19) (oI (-1))),oM 21 20,gA 22 4 9 21 true,gD 23 22 21 true,gM 24 2 21 true,gW 25 (.call (oF 245) [.t 23,.t 24]) 21 true,oW 26 (.pick (.t 21) (.t 25) (oB false))]
 (.cond (.t 26) (.region [oM 27 7,oA 28 5 9,oD 29 28,oW 30 (.buildSlice 3 1 (.int .i64 0) 1 [(0,.t 29)]),oW 31 (.append 3 1 8 (.t 27) (.t 30)),oM 7 31]) .skip))))
 (.region [oW 32 (.arith .add (.t 14) (oI 1)),oM 14 32]))))
def UF:aI :=
 (oQ [oM 33 7,oW 34 (.call (oF 246) [.t 33]),oM 6 34]
 .ret)
def d4:aL:={ntmps:=35,results:=[.t 6],mode:=.pure,body :=
 (oQ [oW 3 (.box 37 6 (.t 0)),oW 4 (.box 45 2 (.t 1)),oW 6 (.move (.c .nsl))]
 (oQ [oW 7 (.move (.c .nsl))]
 (.seq (oQ [oL 10 6 3,oL 11 2 4,oW 12 (.call (oF 224) [.t 10,.t 11]),oW 13 (.len 1 (.t 12)),oW 14 (.move (oI 0))]
 (.block 0 (.loop UE)))
 UF)))}
theorem c188:aD Tryz.prog Tryz.f188 .pure=some d4:=by kernel_rfl
def UB:aI :=
 (oQ [oW 12 (.arith .lss (.t 11) (.t 10))]
 (.seq (.cond (.t 12) .skip (.exit 0))
 (.seq (.block 1 (oQ [oW 13 (.indexAddr 3 (.t 9) (.t 11)),oL 14 3 13,oW 7 (.alloc 134 3 (.agg [.int .i64 0,.int .i64 0,.nsl])),oS 3 7 14]
 (oQ [oA 15 2 7,oD 16 15,oM 17 1,oW 18 (.call (oF 245) [.t 16,.t 17])]
 (.cond (.t 18) (.region [oM 19 5,oA 20 0 7,oA 21 0 20,oD 22 21,oW 23 (.buildSlice 3 1 (.int .i64 0) 1 [(0,.t 22)]),oW 24 (.append 3 1 8 (.t 19) (.t 23)),oM 5 24]) .skip))))
 (.region [oW 25 (.arith .add (.t 11) (oI 1)),oM 11 25]))))
def UD:aI :=
 (oQ [oM 26 5,oW 27 (.call (oF 246) [.t 26]),oM 4 27]
 .ret)
def c9:aL:={ntmps:=28,results:=[.t 4],mode:=.pure,body :=
 (oQ [oW 2 (.box 37 6 (.t 0)),oW 4 (.move (.c .nsl))]
 (oQ [oW 5 (.move (.c .nsl))]
 (.seq (oQ [oA 8 5 2,oD 9 8,oW 10 (.len 1 (.t 9)),oW 11 (.move (oI 0))]
 (.block 0 (.loop UB)))
 UD)))}
theorem c189:aD Tryz.prog Tryz.f189 .pure=some c9:=by kernel_rfl
def X4:aL:={ntmps:=13,results:=[.t 4],mode:=.pure,body :=
 (oQ [oW 2 (.box 76 2 (.t 0)),oW 4 (.move (oB false))]
 (oQ [oM 5 1,oW 6 (.arith .geq (.t 5) (oI 0)),oM 7 6,gM 8 1 7 true,gA 9 0 2 7 true,gD 10 9 7 true,gW 11 (.arith .lss (.t 8) (.t 10)) 7 true,oW 12 (.pick (.t 7) (.t 11) (oB false)),oM 4 12]
 .ret))}
theorem c190:aD Tryz.prog Tryz.f190 .pure=some X4:=by kernel_rfl
def Bz:aL:={ntmps:=6,results:=[.t 2],mode:=.pure,body :=
 (oQ [oW 2 (.move (oB false))]
 (oQ [oM 3 0,oM 4 0,oW 5 (.arith .neq (.t 3) (.t 4)),oM 2 5]
 .ret))}
theorem XK:aD Tryz.prog Tryz.f193 .pure=some Bz:=by kernel_rfl
def c8:aL:={ntmps:=43,results:=[.t 2],mode:=.pure,body :=
 (oQ [oW 1 (.box 94 5 (.t 0)),oW 2 (.move (oB false))]
 (.seq (oQ [oA 3 0 1,oD 4 3,oW 5 (.call (oF 204) [.t 4]),oW 6 (.un .not (.t 5))]
 (.cond (.t 6) (oQ [oW 2 (.move (oB false))]
 .ret) .skip))
 (.seq (oQ [oA 7 1 1,oD 8 7]
 (.block 0 (.seq (.block 3 (.seq (.block 2 (.seq (.block 1 (.seq (.seq (oQ [oW 10 (.arith .eql (.t 8) (oI 1)),oM 9 10]
 (.cond (.t 9) (.exit 1) .skip))
 (.seq (oQ [oW 12 (.arith .eql (.t 8) (oI 3)),oM 11 12]
 (.cond (.t 11) (.exit 2) .skip))
 (oQ [oW 14 (.arith .eql (.t 8) (oI 2)),oM 13 14]
 (.cond (.t 13) (.exit 3) .skip))))
 (.exit 0)))
 (.seq (oQ [oA 15 2 1,oD 16 15,oA 17 3 1,oD 18 17,oW 19 (.arith .leq (.t 16) (.t 18)),oM 20 19,gA 21 4 1 20 true,gD 22 21 20 true,gW 23 (.arith .eql (.t 22) (.c (.str []))) 20 true,oW 24 (.pick (.t 20) (.t 23) (oB false)),oM 2 24]
 .ret)
 (.exit 0))))
 (oQ [oA 25 4 1,oD 26 25,oW 27 (.len 0 (.t 26)),oW 28 (.arith .eql (.t 27) (oI 12))]
 (.cond (.t 28) (oQ [oW 2 (.move (oB false))]
 .ret) .skip))))
 (.seq (oQ [oA 29 2 1,oD 30 29,oW 31 (.arith .eql (.t 30) (oI 0)),oM 32 31,gA 33 3 1 32 true,gD 34 33 32 true,gW 35 (.arith .eql (.t 34) (oI 0)) 32 true,oW 36 (.pick (.t 32) (.t 35) (oB false)),oM 37 36,gA 38 4 1 37 true,gD 39 38 37 true,gW 40 (.len 0 (.t 39)) 37 true,gW 41 (.arith .leq (.t 40) (oI 12)) 37 true,oW 42 (.pick (.t 37) (.t 41) (oB false)),oM 2 42]
 .ret)
 (.exit 0)))))
 (oQ [oW 2 (.move (oB false))]
 .ret))))}
theorem c203:aD Tryz.prog Tryz.f203 .pure=some c8:=by kernel_rfl
def TZ:aI :=
 (oQ [oW 7 (.arith .lss (.t 6) (.t 5))]
 (.seq (.cond (.t 7) .skip (.exit 0))
 (.seq (.block 1 (oQ [oM 8 6,oM 3 8]
 (oQ [oM 9 0,oM 10 3,oW 11 (.indexStr (.t 9) (.t 10)),oW 12 (.arith .lss (.t 11) (.c (.int .u8 97))),oM 13 12,gM 14 0 13 false,gM 15 3 13 false,gW 16 (.indexStr (.t 14) (.t 15)) 13 false,gW 17 (.arith .gtr (.t 16) (.c (.int .u8 122))) 13 false,oW 18 (.pick (.t 13) (oB true) (.t 17))]
 (.cond (.t 18) (oQ [oW 2 (.move (oB false))]
 .ret) .skip))))
 (.region [oW 19 (.arith .add (.t 6) (oI 1)),oM 6 19]))))
def UA:aI :=
 (oQ [oM 20 0,oW 21 (.arith .neq (.t 20) (.c (.str []))),oM 22 21,gM 23 0 22 true,gW 24 (.len 0 (.t 23)) 22 true,gW 25 (.arith .leq (.t 24) (oI 12)) 22 true,oW 26 (.pick (.t 22) (.t 25) (oB false)),oM 2 26]
 .ret)
def c7:aL:={ntmps:=27,results:=[.t 2],mode:=.pure,body :=
 (oQ [oW 2 (.move (oB false))]
 (.seq (oQ [oM 4 0,oW 5 (.len 0 (.t 4)),oW 6 (.move (oI 0))]
 (.block 0 (.loop TZ)))
 UA))}
theorem c204:aD Tryz.prog Tryz.f204 .pure=some c7:=by kernel_rfl
def X3:aL:={ntmps:=44,results:=[(.cell 6 (some 6)),.t 7],mode:=.frz,body :=
 (oQ [oW 3 (.box 37 6 (.t 0)),oW 4 (.box 45 2 (.t 1)),oW 6 (.alloc 37 6 (.agg [.int .i64 0,.nsl,.nsl,.nsl,.nsl,.nsl])),oW 7 (.move (oB false))]
 (oQ [oL 10 6 3,oW 11 (.call (oF 233) [.t 10]),oS 6 3 11]
 (oQ [oL 13 6 3,oL 14 2 4,oW 15 (.call (oF 86) [.t 13,.t 14]),oM 12 15,oX 16 12 0,oX 17 12 1,oM 8 16,oM 9 17]
 (.seq (oQ [oM 18 9,oW 19 (.un .not (.t 18)),oM 20 19,gA 21 2 3 20 false,gD 22 21 20 false,gM 23 8 20 false,gW 24 (.indexAddr 4 (.t 22) (.t 23)) 20 false,gA 25 3 24 20 false,gD 26 25 20 false,gM 27 2 20 false,gW 28 (.arith .neq (.t 26) (.t 27)) 20 false,oW 29 (.pick (.t 20) (oB true) (.t 28))]
 (.cond (.t 29) (oQ [oL 30 6 3,oS 6 6 30,oW 7 (.move (oB false))]
 .ret) .skip))
 (oQ [oA 31 2 3,oD 32 31,oM 33 8,oM 34 8,oW 35 (.arith .add (.t 34) (oI 1)),oW 36 (.call (oF 263) [.t 32,.t 33,.t 35]),oA 37 2 3,oS 1 37 36]
 (oQ [oA 38 4 3,oD 39 38,oW 40 (.makeFunc 265 [.t 4]),oW 41 (.call (oF 264) [.t 39,.t 40]),oA 42 4 3,oS 1 42 41]
 (oQ [oL 43 6 3,oS 6 6 43,oW 7 (.move (oB true))]
 .ret)))))))}
theorem c213:aD Tryz.prog Tryz.f213 .frz=some X3:=by kernel_rfl
def TX:aI :=
 (oQ [oW 38 (.arith .lss (.t 37) (.t 36))]
 (.seq (.cond (.t 38) .skip (.exit 0))
 (.seq (.block 1 (oQ [oW 39 (.indexAddr 7 (.t 35) (.t 37)),oL 40 7 39,oW 16 (.alloc 70 7 (.agg [.int .i64 0,.int .i64 0,.int .i64 0,.int .i64 0,.nsl,.int .i64 0,.bool false])),oS 7 16 40]
 (.draw [oRA 42 3 10,oRD 43 42,oRL 44 7 16,nK 45 (.call (oF 178) [.t 44]) .create 0,oRM 41 14,nK 46 (.build [.int .i64 0,.int .i64 0,.int .i64 0,.int .i64 0,.int .i64 0,.int .i64 0,.nsl,.nsl] [(0,1,.t 43),(1,7,.t 45)]) .read 1,nK 47 (.buildSlice 206 8 (.agg [.int .i64 0,.int .i64 0,.int .i64 0,.int .i64 0,.int .i64 0,.int .i64 0,.nsl,.nsl]) 1 [(0,.t 46)]) .create 0,nK 48 (.append 206 8 96 (.t 41) (.t 47)) .write 2,nK 14 (.move (.t 48)) .read 3])))
 (.region [oW 49 (.arith .add (.t 37) (oI 1)),oM 37 49]))))
def TY:aI :=
 (.seq (.draw [oRL 50 6 4,oRA 52 3 10,oRD 53 52,oRL 54 2 5,oRL 55 2 6,oRM 51 14,oR 56 (.build [.int .i64 0,.int .i64 0,.int .i64 0,.int .i64 0,.int .i64 0,.nsl,.nsl] [(0,1,oI 4),(1,2,.t 54),(3,2,.t 55)]),oR 57 (.build [.int .i64 0,.int .i64 0,.int .i64 0,.int .i64 0,.int .i64 0,.int .i64 0,.nsl,.nsl] [(0,1,.t 53),(1,7,.t 56)]),nK 58 (.buildSlice 206 8 (.agg [.int .i64 0,.int .i64 0,.int .i64 0,.int .i64 0,.int .i64 0,.int .i64 0,.nsl,.nsl]) 1 [(0,.t 57)]) .create 0,nK 59 (.append 206 8 96 (.t 51) (.t 58)) .create 0,⟨none,.store 6 (.t 8) (.t 50),none,.write,2,false⟩,nK 9 (.move (.t 59)) .read 3])
 .ret)
def b9:aL:={ntmps:=60,results:=[(.cell 8 (some 6)),.t 9],mode:=.frz,body :=
 (oQ [oW 4 (.box 37 6 (.t 0)),oW 5 (.box 45 2 (.t 1)),oW 6 (.box 45 2 (.t 2)),oW 8 (.alloc 37 6 (.agg [.int .i64 0,.nsl,.nsl,.nsl,.nsl,.nsl])),oW 9 (.move (.c .nsl))]
 (oQ [oL 18 6 4,oL 19 2 5,oW 20 (.call (oF 30) [.t 18,.t 19]),oM 17 20,oX 21 17 0,oX 22 17 1,oW 10 (.alloc 68 4 (.agg [.int .i64 0,.int .i64 0,.nsl,.int .i64 0])),oS 4 10 21,oM 11 22]
 (oQ [oL 24 6 4,oL 25 2 5,oL 26 2 6,oM 27 3,oW 28 (.call (oF 266) [.t 24,.t 25,.t 26,.t 27]),oM 23 28,oX 29 23 0,oX 30 23 1,oX 31 23 2,oS 6 4 29,oM 12 30,oM 13 31]
 (.seq (oQ [oM 32 13,oW 33 (.un .not (.t 32))]
 (.cond (.t 33) (oQ [oL 34 6 4,oS 6 8 34,oW 9 (.move (.c .nsl))]
 .ret) .skip))
 (oQ [oW 14 (.move (.c .nsl))]
 (.seq (oQ [oM 35 12,oW 36 (.len 1 (.t 35)),oW 37 (.move (oI 0))]
 (.block 0 (.loop TX)))
 TY))))))}
theorem c214:aD Tryz.prog Tryz.f214 .frz=some b9:=by kernel_rfl
end Go.Dm.Tc
