/- A part of the proof. -/
import Derived.Test.YtfkbogedodngeaaGreatDoorTc0
import Derived.Test.YtfkbogedodngeaaGreatDoorMm4
import Derived.Test.YtfkbogedodngeaaGreatDoorRows
import Derived.KernelRfl
namespace Go.Dm.Tc
open Go.Proofs
def ZG:aL:={ntmps:=33,results:=[.t 6],mode:=.full,body :=
 (oQ [oW 6 (.move (.c .nsl))]
 (oQ [oM 8 0,oM 9 1,oM 10 2,oM 11 0,oW 12 (.len 1 (.t 11)),oW 13 (.slice3 (.t 8) (.t 9) (.t 10) (.t 12))]
 (.seq (oQ [oM 14 1,oM 15 2,oW 16 (.arith .eql (.t 14) (.t 15))]
 (.cond (.t 16) (oQ [oM 17 0,oM 6 17]
 .ret) .skip))
 (oQ [oM 18 0,oW 19 (.len 1 (.t 18)),oM 7 19]
 (.seq (.draw [oRM 20 0,oRM 21 1,oR 22 (.sliceSl 7 (.t 20) none (some (.t 21))),oRM 23 0,oRM 24 2,oR 25 (.sliceSl 7 (.t 23) (some (.t 24)) none),oW 26 (.append 70 7 72 (.t 22) (.t 25)),nK 0 (.move (.t 26)) .read 1])
 (oQ [oM 27 0,oM 28 0,oW 29 (.len 1 (.t 28)),oM 30 7,oW 31 (.sliceSl 7 (.t 27) (some (.t 29)) (some (.t 30))),oZ (.clear 7 (.agg [.int .i64 0,.int .i64 0,.int .i64 0,.int .i64 0,.nsl,.int .i64 0,.bool false]) (.t 31))]
 (oQ [oM 32 0,oM 6 32]
 .ret)))))))}
theorem c310:aD Tryz.prog Tryz.f310 .full=some ZG:=by kernel_rfl
def ZF:aL:={ntmps:=8,results:=[.t 4],mode:=.pure,body :=
 (oQ [oW 4 (.move (oB false))]
 (oQ [oM 5 0,oM 6 1,oW 7 (.call (oF 332) [.t 5,.t 6]),oM 4 7]
 .ret))}
theorem c314:aD Tryz.prog Tryz.f314 .pure=some ZF:=by kernel_rfl
def ZE:aL:={ntmps:=5,results:=[(.cell 2 (some 3))],mode:=.pure,body :=
 (oQ [oW 2 (.alloc 184 3 (.agg [.bool false,.int .i64 0,.str []]))]
 (oQ [oM 3 0,oW 4 (.build [.bool false,.int .i64 0,.str []] [(0,1,oB true),(2,1,.t 3)]),oS 3 2 4]
 .ret))}
theorem c315:aD Tryz.prog Tryz.f315 .pure=some ZE:=by kernel_rfl
def ZD:aL:={ntmps:=14,results:=[],mode:=.full,body :=
 (oQ [oM 4 0,oM 5 1,oW 6 (.sliceSl 4 (.t 4) none (some (.t 5))),oW 7 (.call (oF 333) [.t 6])]
 (oQ [oM 8 0,oM 9 1,oW 10 (.sliceSl 4 (.t 8) (some (.t 9)) none),oW 11 (.call (oF 333) [.t 10])]
 (.region [oM 12 0,oW 13 (.call (oF 333) [.t 12])])))}
theorem c319:aD Tryz.prog Tryz.f319 .full=some ZD:=by kernel_rfl
def ZC:aL:={ntmps:=14,results:=[],mode:=.full,body :=
 (oQ [oM 4 0,oM 5 1,oW 6 (.sliceSl 2 (.t 4) none (some (.t 5))),oW 7 (.call (oF 334) [.t 6])]
 (oQ [oM 8 0,oM 9 1,oW 10 (.sliceSl 2 (.t 8) (some (.t 9)) none),oW 11 (.call (oF 334) [.t 10])]
 (.region [oM 12 0,oW 13 (.call (oF 334) [.t 12])])))}
theorem c320:aD Tryz.prog Tryz.f320 .full=some ZC:=by kernel_rfl
def SY:aI :=
 (.seq (oQ [oM 15 9,oM 16 10,oW 17 (.arith .lss (.t 15) (.t 16))]
 (.cond (.t 17) .skip (.exit 0)))
 (.block 1 (oQ [oM 18 9,oM 19 10,oW 20 (.arith .add (.t 18) (.t 19)),oW 21 (.conv .u64 (.t 20)),oW 22 (.arith .shr (.t 21) (.c (.int .u64 1))),oW 23 (.conv .i64 (.t 22)),oM 11 23]
 (oQ [oM 24 2,oM 25 0,oM 26 11,oW 27 (.indexAddr 5 (.t 25) (.t 26)),oL 28 5 27,oM 29 1,oW 30 (.call (.t 24) [.t 28,.t 29]),oW 31 (.arith .lss (.t 30) (oI 0))]
 (.cond (.t 31) (.region [oM 32 11,oW 33 (.arith .add (.t 32) (oI 1)),oM 9 33]) (.region [oM 34 11,oM 10 34]))))))
def SZ:aI :=
 (oQ [oM 35 9,oM 36 9,oM 37 8,oW 38 (.arith .lss (.t 36) (.t 37)),oM 39 38,gM 40 2 39 true,gM 41 0 39 true,gM 42 9 39 true,gW 43 (.indexAddr 5 (.t 41) (.t 42)) 39 true,gL 44 5 43 39 true,gM 45 1 39 true,gW 46 (.call (.t 40) [.t 44,.t 45]) 39 true,gW 47 (.arith .eql (.t 46) (oI 0)) 39 true,oW 48 (.pick (.t 39) (.t 47) (oB false)),oM 6 35,oM 7 48]
 .ret)
def ZB:aL:={ntmps:=49,results:=[.t 6,.t 7],mode:=.pure,body :=
 (oQ [oW 6 (.move (oI 0)),oW 7 (.move (oB false))]
 (oQ [oM 12 0,oW 13 (.len 1 (.t 12)),oM 8 13]
 (oQ [oM 14 8,oW 9 (.move (oI 0)),oM 10 14]
 (.seq (.block 0 (.loop SY))
 SZ))))}
theorem c321:aD Tryz.prog Tryz.f321 .pure=some ZB:=by kernel_rfl
def ZA:aL:={ntmps:=9,results:=[.t 4],mode:=.pure,body :=
 (oQ [oW 2 (.box 94 5 (.t 0)),oW 4 (.move (oI 0))]
 (oQ [oA 5 0 2,oD 6 5,oM 7 1,oW 8 (.call (oF 323) [.t 6,.t 7]),oM 4 8]
 .ret))}
theorem c322:aD Tryz.prog Tryz.f322 .pure=some ZA:=by kernel_rfl
def YZ:aL:={ntmps:=8,results:=[.t 4],mode:=.pure,body :=
 (oQ [oW 4 (.move (oI 0))]
 (oQ [oM 5 0,oM 6 1,oW 7 (.call (oF 335) [.t 5,.t 6]),oM 4 7]
 .ret))}
theorem c323:aD Tryz.prog Tryz.f323 .pure=some YZ:=by kernel_rfl
def YY:aL:={ntmps:=69,results:=[(.cell 4 (some 5)),.t 5],mode:=.pure,body :=
 (oQ [oW 2 (.box 94 5 (.t 0)),oW 3 (.box 94 5 (.t 1)),oW 4 (.alloc 94 5 (.agg [.str [],.int .i64 0,.int .i64 0,.int .i64 0,.str []])),oW 5 (.move (oB false))]
 (oQ [oW 7 (.build [.str [],.int .i64 0,.int .i64 0,.int .i64 0,.str []] []),oW 6 (.alloc 94 5 (.agg [.str [],.int .i64 0,.int .i64 0,.int .i64 0,.str []])),oS 5 6 7]
 (.seq (oQ [oA 8 1 2,oD 9 8,oA 10 1 3,oD 11 10,oW 12 (.arith .gtr (.t 9) (.t 11))]
 (.cond (.t 12) (.region [oL 13 5 3,oL 14 5 2,oS 5 2 13,oS 5 3 14]) .skip))
 (.seq (oQ [oA 15 1 2,oD 16 15]
 (.block 0 (.seq (.block 3 (.seq (.block 2 (.seq (.block 1 (.seq (.seq (oQ [oW 18 (.arith .eql (.t 16) (oI 1)),oM 17 18]
 (.cond (.t 17) (.exit 1) .skip))
 (.seq (oQ [oW 20 (.arith .eql (.t 16) (oI 3)),oM 19 20]
 (.cond (.t 19) (.exit 2) .skip))
 (oQ [oW 22 (.arith .eql (.t 16) (oI 2)),oM 21 22]
 (.cond (.t 21) (.exit 3) .skip))))
 (.exit 0)))
 (.seq (.seq (oQ [oA 23 1 3,oD 24 23,oW 25 (.arith .neq (.t 24) (oI 1)),oM 26 25,gA 27 2 2 26 false,gD 28 27 26 false,gA 29 2 3 26 false,gD 30 29 26 false,gW 31 (.minmax true (.t 28) (.t 30)) 26 false,gA 32 3 2 26 false,gD 33 32 26 false,gA 34 3 3 26 false,gD 35 34 26 false,gW 36 (.minmax false (.t 33) (.t 35)) 26 false,gW 37 (.arith .gtr (.t 31) (.t 36)) 26 false,oW 38 (.pick (.t 26) (oB true) (.t 37))]
 (.cond (.t 38) (oQ [oL 39 5 6,oS 5 4 39,oW 5 (.move (oB false))]
 .ret) .skip))
 (.seq (.draw [oRA 40 2 2,⟨(some 41),.load none (.t 40),none,.read,0,true⟩,oRA 42 2 3,⟨(some 43),.load none (.t 42),none,.read,0,true⟩,oRA 45 3 2,⟨(some 46),.load none (.t 45),none,.read,0,true⟩,oRA 47 3 3,oRD 48 47,oR 44 (.minmax true (.t 41) (.t 43)),oRA 50 2 2,⟨none,.store 1 (.t 50) (.t 44),none,.create,0,false⟩,oR 49 (.minmax false (.t 46) (.t 48)),nK 51 (.fieldAddr 3 (.t 2)) .read 1,⟨none,.store 1 (.t 51) (.t 49),none,.write,1,false⟩])
 (oQ [oL 52 5 2,oS 5 4 52,oW 5 (.move (oB true))]
 .ret)))
 (.exit 0))))
 (oQ [oA 53 4 2,oD 54 53,oW 55 (.len 0 (.t 54)),oA 56 4 3,oD 57 56,oW 58 (.len 0 (.t 57)),oW 59 (.arith .lss (.t 55) (.t 58))]
 (.cond (.t 59) (.region [oL 60 5 3,oL 61 5 2,oS 5 2 60,oS 5 3 61]) .skip))))
 (.seq (.seq (.draw [oRL 62 5 3,oRA 63 4 2,oRD 64 63,nK 65 (.call (oF 315) [.t 64]) .create 0,nK 66 (.call (oF 302) [.t 62,.t 65]) .write 1])
 (.cond (.t 66) (oQ [oL 67 5 2,oS 5 4 67,oW 5 (.move (oB true))]
 .ret) .skip))
 (.exit 0)))))
 (oQ [oL 68 5 6,oS 5 4 68,oW 5 (.move (oB false))]
 .ret)))))}
theorem c324:aD Tryz.prog Tryz.f324 .pure=some YY:=by kernel_rfl
def SX:aL:={ntmps:=95,results:=[.t 6],mode:=.split,body :=
 (oQ [oW 6 (.move (.c .nsl))]
 (oQ [oM 10 0,oM 11 1,oW 12 (.sliceSl 5 (.t 10) (some (.t 11)) none)]
 (oQ [oM 13 2,oW 14 (.len 1 (.t 13)),oM 7 14]
 (.seq (oQ [oM 15 7,oW 16 (.arith .eql (.t 15) (oI 0))]
 (.cond (.t 16) (oQ [oM 17 0,oM 6 17]
 .ret) .skip))
 (oQ [oM 18 0,oW 19 (.len 1 (.t 18)),oM 8 19]
 (.seq (oQ [oM 20 1,oM 21 8,oW 22 (.arith .eql (.t 20) (.t 21))]
 (.cond (.t 22) (oQ [oM 23 0,oM 24 2,oW 25 (.append 94 5 56 (.t 23) (.t 24)),oM 6 25]
 .ret) .skip))
 (.seq (oQ [oM 26 8,oM 27 7,oW 28 (.arith .add (.t 26) (.t 27)),oM 29 0,oW 30 (.cap (.t 29)),oW 31 (.arith .gtr (.t 28) (.t 30))]
 (.cond (.t 31) (oQ [oM 32 0,oM 33 1,oW 34 (.sliceSl 5 (.t 32) none (some (.t 33))),oM 35 8,oM 36 7,oW 37 (.arith .add (.t 35) (.t 36)),oM 38 1,oW 39 (.arith .sub (.t 37) (.t 38)),oW 40 (.appendZ 94 5 56 (.agg [.str [],.int .i64 0,.int .i64 0,.int .i64 0,.str []]) (.t 34) (.t 39)),oM 9 40]
 (oQ [oM 41 9,oM 42 1,oW 43 (.sliceSl 5 (.t 41) (some (.t 42)) none),oM 44 2,oW 45 (.copy 5 (.t 43) (.t 44))]
 (.seq (.draw [oRM 46 9,oRM 47 1,oRM 48 7,oR 49 (.arith .add (.t 47) (.t 48)),oR 50 (.sliceSl 5 (.t 46) (some (.t 49)) none),oRM 51 0,oRM 52 1,oR 53 (.sliceSl 5 (.t 51) (some (.t 52)) none),oW 54 (.copy 5 (.t 50) (.t 53))])
 (oQ [oM 55 9,oM 6 55]
 .ret)))) .skip))
 (oQ [oM 56 0,oM 57 8,oM 58 7,oW 59 (.arith .add (.t 57) (.t 58)),oW 60 (.sliceSl 5 (.t 56) none (some (.t 59))),oM 0 60]
 (.seq (oQ [oM 61 2,oM 62 0,oM 63 1,oM 64 7,oW 65 (.arith .add (.t 63) (.t 64)),oW 66 (.sliceSl 5 (.t 62) (some (.t 65)) none),oW 67 (.call (oF 336) [.t 61,.t 66]),oW 68 (.un .not (.t 67))]
 (.cond (.t 68) (.seq (.draw [oRM 69 0,oRM 70 1,oRM 71 7,oR 72 (.arith .add (.t 70) (.t 71)),oR 73 (.sliceSl 5 (.t 69) (some (.t 72)) none),oRM 74 0,oRM 75 1,oR 76 (.sliceSl 5 (.t 74) (some (.t 75)) none),oW 77 (.copy 5 (.t 73) (.t 76))])
 (oQ [oM 78 0,oM 79 1,oW 80 (.sliceSl 5 (.t 78) (some (.t 79)) none),oM 81 2,oW 82 (.copy 5 (.t 80) (.t 81))]
 (oQ [oM 83 0,oM 6 83]
 .ret))) .skip))
 (oQ [oM 84 0,oM 85 8,oW 86 (.sliceSl 5 (.t 84) (some (.t 85)) none),oM 87 2,oW 88 (.copy 5 (.t 86) (.t 87))]
 (oQ [oM 89 0,oM 90 1,oW 91 (.sliceSl 5 (.t 89) (some (.t 90)) none),oM 92 7,oW 93 (.call (oF 337) [.t 91,.t 92])]
 (oQ [oM 94 0,oM 6 94]
 .ret))))))))))))}
theorem c325:aD Tryz.prog Tryz.f325 .split=some SX:=by kernel_rfl
def YX:aL:={ntmps:=5,results:=[(.cell 2 (some 3))],mode:=.pure,body :=
 (oQ [oW 2 (.alloc 184 3 (.agg [.bool false,.int .i64 0,.str []]))]
 (oQ [oM 3 0,oW 4 (.build [.bool false,.int .i64 0,.str []] [(1,1,.t 3)]),oS 3 2 4]
 .ret))}
theorem c326:aD Tryz.prog Tryz.f326 .pure=some YX:=by kernel_rfl
def YW:aL:={ntmps:=14,results:=[],mode:=.full,body :=
 (oQ [oM 4 0,oM 5 1,oW 6 (.sliceSl 7 (.t 4) none (some (.t 5))),oW 7 (.call (oF 338) [.t 6])]
 (oQ [oM 8 0,oM 9 1,oW 10 (.sliceSl 7 (.t 8) (some (.t 9)) none),oW 11 (.call (oF 338) [.t 10])]
 (.region [oM 12 0,oW 13 (.call (oF 338) [.t 12])])))}
theorem c327:aD Tryz.prog Tryz.f327 .full=some YW:=by kernel_rfl
def Ng:aI :=
 (oQ [oW 9 (.arith .lss (.t 8) (.t 7))]
 (.seq (.cond (.t 9) .skip (.exit 0))
 (.seq (.block 1 (oQ [oM 10 8,oM 5 10]
 (.seq (.draw [oRL 11 2 3,oRM 12 0,oRM 13 5,oR 14 (.indexAddr 2 (.t 12) (.t 13)),oRL 15 2 14,oR 16 (.eqa false [1,1] (.t 11) (.t 15))])
 (.cond (.t 16) (oQ [oM 17 5,oM 4 17]
 .ret) .skip))))
 (.region [oW 18 (.arith .add (.t 8) (oI 1)),oM 8 18]))))
def Xy:aI :=
 (oQ [oW 4 (.move (oI (-1)))]
 .ret)
def W2:aL:={ntmps:=19,results:=[.t 4],mode:=.pure,body :=
 (oQ [oW 3 (.box 86 2 (.t 1)),oW 4 (.move (oI 0))]
 (.seq (oQ [oM 6 0,oW 7 (.len 1 (.t 6)),oW 8 (.move (oI 0))]
 (.block 0 (.loop Ng)))
 Xy))}
theorem c328:aD Tryz.prog Tryz.f328 .pure=some W2:=by kernel_rfl
def SW:aI :=
 (.seq (oQ [oM 7 2,oM 8 3,oW 9 (.arith .lss (.t 7) (.t 8))]
 (.cond (.t 9) .skip (.exit 0)))
 (.seq (.block 1 (.draw [oRM 18 0,oRM 19 3,oR 20 (.indexAddr 3 (.t 18) (.t 19)),oRL 21 3 20,oRM 22 0,oRM 23 2,oR 24 (.indexAddr 3 (.t 22) (.t 23)),oRL 25 3 24,oRM 14 0,oRM 15 2,oR 26 (.indexAddr 3 (.t 14) (.t 15)),oS 3 26 21,oRM 16 0,oRM 17 3,nK 27 (.indexAddr 3 (.t 16) (.t 17)) .read 1,⟨none,.store 3 (.t 27) (.t 25),none,.write,1,false⟩]))
 (.region [oM 10 2,oW 11 (.arith .add (.t 10) (oI 1)),oM 12 3,oW 13 (.arith .sub (.t 12) (oI 1)),oM 2 11,oM 3 13])))
def YV:aL:={ntmps:=28,results:=[],mode:=.full,body :=
 (oQ [oM 4 0,oW 5 (.len 1 (.t 4)),oW 6 (.arith .sub (.t 5) (oI 1)),oW 2 (.move (oI 0)),oM 3 6]
 (.block 0 (.loop SW)))}
theorem c329:aD Tryz.prog Tryz.f329 .full=some YV:=by kernel_rfl
def YU:aL:={ntmps:=18,results:=[.t 4],mode:=.pure,body :=
 (oQ [oW 4 (.move (oB false))]
 (oQ [oM 5 0,oW 6 (.len 0 (.t 5)),oM 7 1,oW 8 (.len 0 (.t 7)),oW 9 (.arith .geq (.t 6) (.t 8)),oM 10 9,gM 11 0 10 true,gM 12 1 10 true,gW 13 (.len 0 (.t 12)) 10 true,gW 14 (.sliceStr (.t 11) none (some (.t 13))) 10 true,gM 15 1 10 true,gW 16 (.arith .eql (.t 14) (.t 15)) 10 true,oW 17 (.pick (.t 10) (.t 16) (oB false)),oM 4 17]
 .ret))}
theorem c332:aD Tryz.prog Tryz.f332 .pure=some YU:=by kernel_rfl
def SV:aI :=
 (.seq (oQ [oM 7 2,oM 8 3,oW 9 (.arith .lss (.t 7) (.t 8))]
 (.cond (.t 9) .skip (.exit 0)))
 (.seq (.block 1 (.draw [oRM 18 0,oRM 19 3,oR 20 (.indexAddr 4 (.t 18) (.t 19)),oRL 21 4 20,oRM 22 0,oRM 23 2,oR 24 (.indexAddr 4 (.t 22) (.t 23)),oRL 25 4 24,oRM 14 0,oRM 15 2,oR 26 (.indexAddr 4 (.t 14) (.t 15)),oS 4 26 21,oRM 16 0,oRM 17 3,nK 27 (.indexAddr 4 (.t 16) (.t 17)) .read 1,⟨none,.store 4 (.t 27) (.t 25),none,.write,1,false⟩]))
 (.region [oM 10 2,oW 11 (.arith .add (.t 10) (oI 1)),oM 12 3,oW 13 (.arith .sub (.t 12) (oI 1)),oM 2 11,oM 3 13])))
def YT:aL:={ntmps:=28,results:=[],mode:=.full,body :=
 (oQ [oM 4 0,oW 5 (.len 1 (.t 4)),oW 6 (.arith .sub (.t 5) (oI 1)),oW 2 (.move (oI 0)),oM 3 6]
 (.block 0 (.loop SV)))}
theorem c333:aD Tryz.prog Tryz.f333 .full=some YT:=by kernel_rfl
def SU:aI :=
 (.seq (oQ [oM 7 2,oM 8 3,oW 9 (.arith .lss (.t 7) (.t 8))]
 (.cond (.t 9) .skip (.exit 0)))
 (.seq (.block 1 (.draw [oRM 18 0,oRM 19 3,oR 20 (.indexAddr 2 (.t 18) (.t 19)),oRL 21 2 20,oRM 22 0,oRM 23 2,oR 24 (.indexAddr 2 (.t 22) (.t 23)),oRL 25 2 24,oRM 14 0,oRM 15 2,oR 26 (.indexAddr 2 (.t 14) (.t 15)),oS 2 26 21,oRM 16 0,oRM 17 3,nK 27 (.indexAddr 2 (.t 16) (.t 17)) .read 1,⟨none,.store 2 (.t 27) (.t 25),none,.write,1,false⟩]))
 (.region [oM 10 2,oW 11 (.arith .add (.t 10) (oI 1)),oM 12 3,oW 13 (.arith .sub (.t 12) (oI 1)),oM 2 11,oM 3 13])))
def YS:aL:={ntmps:=28,results:=[],mode:=.full,body :=
 (oQ [oM 4 0,oW 5 (.len 1 (.t 4)),oW 6 (.arith .sub (.t 5) (oI 1)),oW 2 (.move (oI 0)),oM 3 6]
 (.block 0 (.loop SU)))}
theorem c334:aD Tryz.prog Tryz.f334 .full=some YS:=by kernel_rfl
def YR:aL:={ntmps:=8,results:=[.t 4],mode:=.pure,body :=
 (oQ [oW 4 (.move (oI 0))]
 (oQ [oM 5 0,oM 6 1,oW 7 (.call (oF 339) [.t 5,.t 6]),oM 4 7]
 .ret))}
theorem c335:aD Tryz.prog Tryz.f335 .pure=some YR:=by kernel_rfl
def YQ:aL:={ntmps:=10,results:=[],mode:=.full,body :=
 (.region [oM 4 0,oM 5 0,oW 6 (.len 1 (.t 5)),oM 7 1,oW 8 (.arith .sub (.t 6) (.t 7)),oW 9 (.call (oF 340) [.t 4,.t 8])])}
theorem c337:aD Tryz.prog Tryz.f337 .full=some YQ:=by kernel_rfl
def ST:aI :=
 (.seq (oQ [oM 7 2,oM 8 3,oW 9 (.arith .lss (.t 7) (.t 8))]
 (.cond (.t 9) .skip (.exit 0)))
 (.seq (.block 1 (.draw [oRM 18 0,oRM 19 3,oR 20 (.indexAddr 7 (.t 18) (.t 19)),oRL 21 7 20,oRM 22 0,oRM 23 2,oR 24 (.indexAddr 7 (.t 22) (.t 23)),oRL 25 7 24,oRM 14 0,oRM 15 2,oR 26 (.indexAddr 7 (.t 14) (.t 15)),oS 7 26 21,oRM 16 0,oRM 17 3,nK 27 (.indexAddr 7 (.t 16) (.t 17)) .read 1,⟨none,.store 7 (.t 27) (.t 25),none,.write,1,false⟩]))
 (.region [oM 10 2,oW 11 (.arith .add (.t 10) (oI 1)),oM 12 3,oW 13 (.arith .sub (.t 12) (oI 1)),oM 2 11,oM 3 13])))
def YP:aL:={ntmps:=28,results:=[],mode:=.full,body :=
 (oQ [oM 4 0,oW 5 (.len 1 (.t 4)),oW 6 (.arith .sub (.t 5) (oI 1)),oW 2 (.move (oI 0)),oM 3 6]
 (.block 0 (.loop ST)))}
theorem c338:aD Tryz.prog Tryz.f338 .full=some YP:=by kernel_rfl
def YO:aL:={ntmps:=14,results:=[],mode:=.full,body :=
 (oQ [oM 4 0,oM 5 1,oW 6 (.sliceSl 5 (.t 4) none (some (.t 5))),oW 7 (.call (oF 341) [.t 6])]
 (oQ [oM 8 0,oM 9 1,oW 10 (.sliceSl 5 (.t 8) (some (.t 9)) none),oW 11 (.call (oF 341) [.t 10])]
 (.region [oM 12 0,oW 13 (.call (oF 341) [.t 12])])))}
theorem c340:aD Tryz.prog Tryz.f340 .full=some YO:=by kernel_rfl
def SS:aI :=
 (.seq (oQ [oM 7 2,oM 8 3,oW 9 (.arith .lss (.t 7) (.t 8))]
 (.cond (.t 9) .skip (.exit 0)))
 (.seq (.block 1 (.draw [oRM 18 0,oRM 19 3,oR 20 (.indexAddr 5 (.t 18) (.t 19)),oRL 21 5 20,oRM 22 0,oRM 23 2,oR 24 (.indexAddr 5 (.t 22) (.t 23)),oRL 25 5 24,oRM 14 0,oRM 15 2,oR 26 (.indexAddr 5 (.t 14) (.t 15)),oS 5 26 21,oRM 16 0,oRM 17 3,nK 27 (.indexAddr 5 (.t 16) (.t 17)) .read 1,⟨none,.store 5 (.t 27) (.t 25),none,.write,1,false⟩]))
 (.region [oM 10 2,oW 11 (.arith .add (.t 10) (oI 1)),oM 12 3,oW 13 (.arith .sub (.t 12) (oI 1)),oM 2 11,oM 3 13])))
def YN:aL:={ntmps:=28,results:=[],mode:=.full,body :=
 (oQ [oM 4 0,oW 5 (.len 1 (.t 4)),oW 6 (.arith .sub (.t 5) (oI 1)),oW 2 (.move (oI 0)),oM 3 6]
 (.block 0 (.loop SS)))}
theorem c341:aD Tryz.prog Tryz.f341 .full=some YN:=by kernel_rfl
end Go.Dm.Tc
