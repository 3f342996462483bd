/- A part of the proof. -/
import Derived.Test.YtloabemenciijaaGreatDoorTc0
import Derived.Test.YtloabemenciijaaGreatDoorMm4
import Derived.Test.YtloabemenciijaaGreatDoorRows
import Derived.KernelRfl
namespace Go.Dm.Tc
open Go.Proofs
def EZ:aG :=
 (oQ [oW 16 (.arith .lss (.t 15) (.t 14))]
 (.seq (.cond (.t 16) .skip (.exit 0))
 (.seq (.block 1 (oQ [oM 17 15,oW 18 (.indexAddr 5 (.t 13) (.t 15)),oL 19 5 18,oW 5 (.alloc 119 5 (.agg [.str [],.int .i64 0,.int .i64 0,.int .i64 0,.str []])),oM 4 17,oS 5 5 19]
 (oQ [oL 20 5 5,oW 21 (.call (oF 201) [.t 20]),oW 22 (.un .not (.t 21))]
 (.cond (.t 22) (oQ [oM 23 4,oW 24 (.makeIface 57 (oI 1)),oW 25 (.call (oF 64) [(.c (.str [112,114,101,100])),.t 23,.t 24]),oW 2 (.move (.c .nsl)),oM 3 25]
 .ret) .skip))))
 (.region [oW 26 (.arith .add (.t 15) (oI 1)),oM 15 26]))))
def EY:aG :=
 (oQ [oW 30 (.arith .lss (.t 29) (.t 28))]
 (.seq (.cond (.t 30) .skip (.exit 2))
 (.seq (.block 3 (oQ [oM 31 29,oW 32 (.indexAddr 5 (.t 27) (.t 29)),oL 33 5 32,oW 8 (.alloc 119 5 (.agg [.str [],.int .i64 0,.int .i64 0,.int .i64 0,.str []])),oM 7 31,oS 5 8 33]
 (oQ [oM 35 6,oA 36 0 8,oD 37 36,oW 38 (.call (oF 346) [.t 35,.t 37,oF 347]),oM 34 38,oX 39 34 0,oX 40 34 1,oM 9 39,oM 10 40]
 (.block 4 (oQ [oM 47 10,oM 46 47]
 (.cond (.t 46) (.seq (.draw [oRM 49 6,oRM 50 9,oR 51 (.indexAddr 5 (.t 49) (.t 50)),oRL 52 5 51,oRL 53 5 8,oW 54 (.call (oF 349) [.t 52,.t 53]),nK 48 (.move (.t 54)) .read 1,nK 55 (.extract (.t 48) 0) .read 1,nK 11 (.alloc 119 5 (.agg [.str [],.int .i64 0,.int .i64 0,.int .i64 0,.str []])) .create 0,⟨none,.store 5 (.t 11) (.t 55),none,.write,2,false⟩,nK 56 (.extract (.t 48) 1) .read 1,nK 12 (.move (.t 56)) .read 3])
 (.seq (oQ [oM 57 12,oW 58 (.un .not (.t 57))]
 (.cond (.t 58) (oQ [oM 59 7,oW 60 (.makeIface 57 (oI 5)),oW 61 (.call (oF 64) [(.c (.str [112,114,101,100])),.t 59,.t 60]),oW 2 (.move (.c .nsl)),oM 3 61]
 .ret) .skip))
 (.region [oM 62 6,oM 63 9,oL 64 5 11,oW 65 (.indexAddr 5 (.t 62) (.t 63)),oS 5 65 64]))) (oQ [oM 67 6,oW 68 (.len 1 (.t 67)),oW 69 (.arith .eql (.t 68) (oI 5)),oM 66 69]
 (.cond (.t 66) (oQ [oM 70 7,oW 71 (.makeIface 57 (oI 7)),oW 72 (.call (oF 64) [(.c (.str [112,114,101,100])),.t 70,.t 71]),oW 2 (.move (.c .nsl)),oM 3 72]
 .ret) (.region [oM 41 6,oM 42 9,oL 43 5 8,oW 44 (.buildSlice 119 5 (.agg [.str [],.int .i64 0,.int .i64 0,.int .i64 0,.str []]) 1 [(0,.t 43)]),oW 45 (.call (oF 350) [.t 41,.t 42,.t 44]),oM 6 45])))))))))
 (.region [oW 73 (.arith .add (.t 29) (oI 1)),oM 29 73]))))
def FB:aG :=
 (oQ [oM 74 6,oM 2 74,oW 3 (.move (.c .nili))]
 .ret)
def FA:aG :=
 (oQ [oW 6 (.move (.c .nsl))]
 (.seq (oQ [oM 27 0,oW 28 (.len 1 (.t 27)),oW 29 (.move (oI 0))]
 (.block 2 (.loop EY)))
 FB))
def NP:aD:={ntmps:=75,results:=[.t 2,.t 3],mode:=.pure,body :=
 (oQ [oW 2 (.move (.c .nsl)),oW 3 (.move (.c .nili))]
 (.seq (oQ [oM 13 0,oW 14 (.len 1 (.t 13)),oW 15 (.move (oI 0))]
 (.block 0 (.loop EZ)))
 FA))}
theorem WM:aB Tryz.prog Tryz.f310 .pure=some NP:=by kernel_rfl
def EW:aG :=
 (oQ [oW 10 (.arith .lss (.t 9) (.t 8))]
 (.seq (.cond (.t 10) .skip (.exit 0))
 (.seq (.block 1 (oQ [oW 11 (.indexAddr 5 (.t 7) (.t 9)),oL 12 5 11,oW 5 (.alloc 119 5 (.agg [.str [],.int .i64 0,.int .i64 0,.int .i64 0,.str []])),oS 5 5 12]
 (oQ [oA 13 4 5,oD 14 13,oW 15 (.call (oF 321) [.t 14]),oW 6 (.alloc 174 3 (.agg [.bool false,.int .i64 0,.str []])),oS 3 6 15]
 (.seq (oQ [oA 16 1 5,oD 17 16,oW 18 (.arith .eql (.t 17) (oI 1))]
 (.cond (.t 18) (.region [oA 19 2 5,oD 20 19,oW 21 (.call (oF 351) [.t 20]),oS 3 6 21]) .skip))
 (.region [oM 22 3,oA 23 0 5,oD 24 23,oL 25 3 6,oW 26 (.build [.str [],.bool false,.int .i64 0,.str []] [(0,1,.t 24),(1,3,.t 25)]),oW 27 (.buildSlice 176 4 (.agg [.str [],.bool false,.int .i64 0,.str []]) 1 [(0,.t 26)]),oW 28 (.append 176 4 48 (.t 22) (.t 27)),oM 3 28])))))
 (.region [oW 29 (.arith .add (.t 9) (oI 1)),oM 9 29]))))
def EX:aG :=
 (oQ [oM 30 3,oM 2 30]
 .ret)
def NO:aD:={ntmps:=31,results:=[.t 2],mode:=.pure,body :=
 (oQ [oW 2 (.move (.c .nsl))]
 (oQ [oW 3 (.move (.c .nsl))]
 (.seq (oQ [oM 7 0,oW 8 (.len 1 (.t 7)),oW 9 (.move (oI 0))]
 (.block 0 (.loop EW)))
 EX)))}
theorem WL:aB Tryz.prog Tryz.f311 .pure=some NO:=by kernel_rfl
def EU:aG :=
 (.seq (oQ [oM 15 9,oM 16 10,oW 17 (.arith .lss (.t 15) (.t 16))]
 (.cond (.t 17) .skip (.exit 0)))
 (.block 1 (oQ [oM 18 9,oM 19 10,oW 20 (.arith .add (.t 18) (.t 19)),oW 21 (.conv .u64 (.t 20)),oW 22 (.arith .shr (.t 21) (.c (.int .u64 1))),oW 23 (.conv .i64 (.t 22)),oM 11 23]
 (.seq (.draw [oRM 25 0,oRM 26 11,oR 27 (.indexAddr 7 (.t 25) (.t 26)),oRL 28 7 27,oRL 29 2 4,oRM 24 2,oW 30 (.call (.t 24) [.t 28,.t 29]),nK 31 (.arith .lss (.t 30) (oI 0)) .read 1])
 (.cond (.t 31) (.region [oM 32 11,oW 33 (.arith .add (.t 32) (oI 1)),oM 9 33]) (.region [oM 34 11,oM 10 34]))))))
def EV:aG :=
 (.seq (.draw [oRM 36 9,oRM 37 8,oR 38 (.arith .lss (.t 36) (.t 37)),oRM 39 38,rM 41 0 39 true,rM 42 9 39 true,rW 43 (.indexAddr 7 (.t 41) (.t 42)) 39 true,rL 44 7 43 39 true,rL 45 2 4 39 true,rM 40 2 39 true,gW 46 (.call (.t 40) [.t 44,.t 45]) 39 true,oRM 35 9,⟨(some 47),.arith .eql (.t 46) (oI 0),(some (39,true)),.read,1,false⟩,nK 48 (.pick (.t 39) (.t 47) (oB false)) .read 1,nK 6 (.move (.t 35)) .read 1,nK 7 (.move (.t 48)) .read 1])
 .ret)
def NN:aD:={ntmps:=49,results:=[.t 6,.t 7],mode:=.pure,body :=
 (oQ [oW 4 (.box 45 2 (.t 1)),oW 6 (.move (oI 0)),oW 7 (.move (oB false))]
 (oQ [oM 12 0,oW 13 (.len 1 (.t 12)),oM 8 13]
 (oQ [oM 14 8,oW 9 (.move (oI 0)),oM 10 14]
 (.seq (.block 0 (.loop EU))
 EV))))}
theorem WK:aB Tryz.prog Tryz.f312 .pure=some NN:=by kernel_rfl
def NM:aD:={ntmps:=34,results:=[.t 5],mode:=.pure,body :=
 (oQ [oW 3 (.box 88 7 (.t 0)),oW 4 (.box 45 2 (.t 1)),oW 5 (.move (oI 0))]
 (.seq (.block 0 (oQ [oA 7 0 3,oL 8 2 7,oL 9 2 2,oW 10 (.eqa false [1,1] (.t 8) (.t 9)),oM 11 10,gA 12 2 3 11 true,gL 13 2 12 11 true,gL 14 2 4 11 true,gW 15 (.eqa false [1,1] (.t 13) (.t 14)) 11 true,oW 16 (.pick (.t 11) (.t 15) (oB false)),oM 6 16]
 (.cond (.t 6) (oQ [oW 5 (.move (oI 0))]
 .ret) (oQ [oA 18 0 3,oL 19 2 18,oL 20 2 2,oW 21 (.call (oF 99) [.t 19,.t 20]),oM 22 21,gA 23 0 3 22 false,gL 24 2 23 22 false,gL 25 2 2 22 false,gW 26 (.eqa false [1,1] (.t 24) (.t 25)) 22 false,gM 27 26 22 false,gA 28 2 3 27 true,gL 29 2 28 27 true,gL 30 2 4 27 true,gW 31 (.call (oF 99) [.t 29,.t 30]) 27 true,gW 32 (.pick (.t 27) (.t 31) (oB false)) 22 false,oW 33 (.pick (.t 22) (oB true) (.t 32)),oM 17 33]
 (.cond (.t 17) (oQ [oW 5 (.move (oI (-1)))]
 .ret) .skip)))))
 (oQ [oW 5 (.move (oI 1))]
 .ret)))}
theorem WJ:aB Tryz.prog Tryz.f313 .pure=some NM:=by kernel_rfl
def NL:aD:={ntmps:=10,results:=[],mode:=.full,body :=
 (.region [oM 4 0,oM 5 0,oW 6 (.len 1 (.t 5)),oM 7 1,oW 8 (.arith .sub (.t 6) (.t 7)),oW 9 (.call (oF 352) [.t 4,.t 8])])}
theorem WI:aB Tryz.prog Tryz.f315 .full=some NL:=by kernel_rfl
def NK:aD:={ntmps:=33,results:=[.t 6],mode:=.full,body :=
 (oQ [oW 6 (.move (.c .nsl))]
 (oQ [oM 8 0,oM 9 1,oM 10 2,oM 11 0,oW 12 (.len 1 (.t 11)),oW 13 (.slice3 (.t 8) (.t 9) (.t 10) (.t 12))]
 (.seq (oQ [oM 14 1,oM 15 2,oW 16 (.arith .eql (.t 14) (.t 15))]
 (.cond (.t 16) (oQ [oM 17 0,oM 6 17]
 .ret) .skip))
 (oQ [oM 18 0,oW 19 (.len 1 (.t 18)),oM 7 19]
 (.seq (.draw [oRM 20 0,oRM 21 1,oR 22 (.sliceSl 7 (.t 20) none (some (.t 21))),oRM 23 0,oRM 24 2,oR 25 (.sliceSl 7 (.t 23) (some (.t 24)) none),oW 26 (.append 88 7 72 (.t 22) (.t 25)),nK 0 (.move (.t 26)) .read 1])
 (oQ [oM 27 0,oM 28 0,oW 29 (.len 1 (.t 28)),oM 30 7,oW 31 (.sliceSl 7 (.t 27) (some (.t 29)) (some (.t 30))),oZ (.clear 7 (.agg [.int .i64 0,.int .i64 0,.int .i64 0,.int .i64 0,.nsl,.int .i64 0,.bool false]) (.t 31))]
 (oQ [oM 32 0,oM 6 32]
 .ret)))))))}
theorem WH:aB Tryz.prog Tryz.f316 .full=some NK:=by kernel_rfl
def ES:aG :=
 (oQ [oW 11 (.arith .lss (.t 10) (.t 9))]
 (.seq (.cond (.t 11) .skip (.exit 0))
 (.seq (.block 1 (oQ [oW 12 (.indexAddr 4 (.t 8) (.t 10)),oL 13 4 12,oW 7 (.alloc 176 4 (.agg [.str [],.bool false,.int .i64 0,.str []])),oS 4 7 13]
 (oQ [oA 14 0 7,oD 15 14,oM 16 1,oW 17 (.arith .eql (.t 15) (.t 16))]
 (.cond (.t 17) (oQ [oA 18 1 7,oL 19 3 18,oS 3 4 19,oW 5 (.move (oB true))]
 .ret) .skip))))
 (.region [oW 20 (.arith .add (.t 10) (oI 1)),oM 10 20]))))
def ET:aG :=
 (oQ [oW 21 (.build [.bool false,.int .i64 0,.str []] []),oS 3 4 21,oW 5 (.move (oB false))]
 .ret)
def NJ:aD:={ntmps:=22,results:=[(.cell 4 (some 3)),.t 5],mode:=.pure,body :=
 (oQ [oW 4 (.alloc 174 3 (.agg [.bool false,.int .i64 0,.str []])),oW 5 (.move (oB false))]
 (.seq (oQ [oM 8 0,oW 9 (.len 1 (.t 8)),oW 10 (.move (oI 0))]
 (.block 0 (.loop ES)))
 ET))}
theorem WG:aB Tryz.prog Tryz.f317 .pure=some NJ:=by kernel_rfl
def NI:aD:={ntmps:=48,results:=[.t 4],mode:=.pure,body :=
 (oQ [oW 2 (.box 119 5 (.t 0)),oW 3 (.box 174 3 (.t 1)),oW 4 (.move (oB false))]
 (.seq (oQ [oA 5 1 2,oD 6 5]
 (.block 0 (oQ [oW 8 (.arith .eql (.t 6) (oI 1)),oM 7 8]
 (.cond (.t 7) (oQ [oA 9 0 3,oD 10 9,oW 11 (.un .not (.t 10)),oM 12 11,gA 13 2 2 12 true,gD 14 13 12 true,gA 15 1 3 12 true,gD 16 15 12 true,gW 17 (.arith .leq (.t 14) (.t 16)) 12 true,oW 18 (.pick (.t 12) (.t 17) (oB false)),oM 19 18,gA 20 1 3 19 true,gD 21 20 19 true,gA 22 3 2 19 true,gD 23 22 19 true,gW 24 (.arith .leq (.t 21) (.t 23)) 19 true,oW 25 (.pick (.t 19) (.t 24) (oB false)),oM 4 25]
 .ret) (oQ [oW 27 (.arith .eql (.t 6) (oI 2)),oM 26 27]
 (.cond (.t 26) (oQ [oA 28 0 3,oD 29 28,oM 30 29,gA 31 2 3 30 true,gD 32 31 30 true,gA 33 4 2 30 true,gD 34 33 30 true,gW 35 (.arith .eql (.t 32) (.t 34)) 30 true,oW 36 (.pick (.t 30) (.t 35) (oB false)),oM 4 36]
 .ret) (oQ [oW 38 (.arith .eql (.t 6) (oI 3)),oM 37 38]
 (.cond (.t 37) (oQ [oA 39 0 3,oD 40 39,oM 41 40,gA 42 2 3 41 true,gD 43 42 41 true,gA 44 4 2 41 true,gD 45 44 41 true,gW 46 (.call (oF 320) [.t 43,.t 45]) 41 true,oW 47 (.pick (.t 41) (.t 46) (oB false)),oM 4 47]
 .ret) .skip))))))))
 (oQ [oW 4 (.move (oB false))]
 .ret)))}
theorem WE:aB Tryz.prog Tryz.f318 .pure=some NI:=by kernel_rfl
def NH:aD:={ntmps:=8,results:=[.t 4],mode:=.pure,body :=
 (oQ [oW 4 (.move (oB false))]
 (oQ [oM 5 0,oM 6 1,oW 7 (.call (oF 353) [.t 5,.t 6]),oM 4 7]
 .ret))}
theorem WD:aB Tryz.prog Tryz.f320 .pure=some NH:=by kernel_rfl
def NG:aD:={ntmps:=5,results:=[(.cell 2 (some 3))],mode:=.pure,body :=
 (oQ [oW 2 (.alloc 174 3 (.agg [.bool false,.int .i64 0,.str []]))]
 (oQ [oM 3 0,oW 4 (.build [.bool false,.int .i64 0,.str []] [(0,1,oB true),(2,1,.t 3)]),oS 3 2 4]
 .ret))}
theorem WC:aB Tryz.prog Tryz.f321 .pure=some NG:=by kernel_rfl
def NF:aD:={ntmps:=12,results:=[.t 4],mode:=.full,body :=
 (oQ [oW 4 (.move (.c .nsl))]
 (oQ [oM 5 0,oW 6 (.nilCheck (.t 5)),oA 7 0 6,oD 8 7,oM 9 1,oW 10 (.lookup (.prim 1) .nsl false (.t 8) (.t 9)),oW 11 (.call (oF 354) [.t 10]),oM 4 11]
 .ret))}
theorem WB:aB Tryz.prog Tryz.f325 .full=some NF:=by kernel_rfl
def NE:aD:={ntmps:=13,results:=[.t 4,.t 5],mode:=.pure,body :=
 (oQ [oW 3 (.box 3 1 (.t 1)),oW 4 (.move (oI 0)),oW 5 (.move (oB false))]
 (oQ [oM 7 0,oW 8 (.makeFunc 356 [.t 3]),oW 9 (.call (oF 355) [.t 7,.t 8]),oM 6 9]
 (oQ [oM 10 6,oM 11 6,oW 12 (.arith .geq (.t 11) (oI 0)),oM 4 10,oM 5 12]
 .ret)))}
theorem WA:aB Tryz.prog Tryz.f326 .pure=some NE:=by kernel_rfl
def EQ:aG :=
 (oQ [oW 12 (.arith .lss (.t 11) (.t 10))]
 (.seq (.cond (.t 12) .skip (.exit 0))
 (.seq (.block 1 (oQ [oW 13 (.indexAddr 2 (.t 9) (.t 11)),oL 14 2 13,oW 7 (.alloc 420 2 (.agg [.int .i64 0,.nsl])),oS 2 7 14]
 (oQ [oA 15 1 7,oD 16 15,oM 17 1,oW 18 (.call (oF 255) [.t 16,.t 17])]
 (.cond (.t 18) (.region [oM 19 5,oL 20 2 7,oW 21 (.buildSlice 420 2 (.agg [.int .i64 0,.nsl]) 1 [(0,.t 20)]),oW 22 (.append 420 2 32 (.t 19) (.t 21)),oM 5 22]) .skip))))
 (.region [oW 23 (.arith .add (.t 11) (oI 1)),oM 11 23]))))
def ER:aG :=
 (oQ [oM 24 5,oM 4 24]
 .ret)
def ND:aD:={ntmps:=25,results:=[.t 4],mode:=.pure,body :=
 (oQ [oW 2 (.box 371 6 (.t 0)),oW 4 (.move (.c .nsl))]
 (oQ [oW 5 (.move (.c .nsl))]
 (.seq (oQ [oA 8 1 2,oD 9 8,oW 10 (.len 1 (.t 9)),oW 11 (.move (oI 0))]
 (.block 0 (.loop EQ)))
 ER)))}
theorem VZ:aB Tryz.prog Tryz.f327 .pure=some ND:=by kernel_rfl
def NC:aD:={ntmps:=8,results:=[(.cell 3 (some 2))],mode:=.full,body :=
 (oQ [oW 3 (.alloc 45 2 (.agg [.int .i64 0,.int .i64 0]))]
 (oQ [oA 4 1 1,oD 5 4,oM 6 0,oW 7 (.build [.int .i64 0,.int .i64 0] [(0,1,.t 5),(1,1,.t 6)]),oS 2 3 7]
 .ret))}
theorem VY:aB Tryz.prog Tryz.f328 .full=some NC:=by kernel_rfl
def NB:aD:={ntmps:=9,results:=[.t 4],mode:=.pure,body :=
 (oQ [oW 3 (.box 3 1 (.t 1)),oW 4 (.move (.c .nsl))]
 (oQ [oM 5 0,oW 6 (.call (oF 358) [.t 5]),oW 7 (.makeFunc 359 [.t 3]),oW 8 (.call (oF 357) [.t 6,.t 7]),oM 4 8]
 .ret))}
theorem VX:aB Tryz.prog Tryz.f329 .pure=some NB:=by kernel_rfl
def NA:aD:={ntmps:=11,results:=[.t 6],mode:=.full,body :=
 (oQ [oW 5 (.box 45 2 (.t 2)),oW 6 (.move (.c .nili))]
 (oQ [oM 7 0,oM 8 1,oW 9 (.makeFunc 360 [.t 5]),oW 10 (.call (oF 138) [.t 7,.t 8,.t 9]),oM 6 10]
 .ret))}
theorem VW:aB Tryz.prog Tryz.f330 .full=some NA:=by kernel_rfl
def MZ:aD:={ntmps:=11,results:=[.t 6],mode:=.full,body :=
 (oQ [oW 5 (.box 45 2 (.t 2)),oW 6 (.move (.c .nili))]
 (oQ [oM 7 0,oM 8 1,oW 9 (.makeFunc 361 [.t 5]),oW 10 (.call (oF 138) [.t 7,.t 8,.t 9]),oM 6 10]
 .ret))}
theorem VV:aB Tryz.prog Tryz.f331 .full=some MZ:=by kernel_rfl
def MY:aD:={ntmps:=9,results:=[.t 4],mode:=.pure,body :=
 (oQ [oW 3 (.box 90 2 (.t 1)),oW 4 (.move (oB false))]
 (oQ [oM 5 0,oL 6 2 3,oW 7 (.call (oF 364) [.t 5,.t 6]),oW 8 (.arith .geq (.t 7) (oI 0)),oM 4 8]
 .ret))}
theorem VU:aB Tryz.prog Tryz.f337 .pure=some MY:=by kernel_rfl
def MX:aD:={ntmps:=27,results:=[.t 4],mode:=.full,body :=
 (oQ [oW 4 (.move (.c .nsl))]
 (.seq (oQ [oM 5 1,oW 6 (.arith .lss (.t 5) (oI 0))]
 (.cond (.t 6) (.region [oW 7 (.makeIface 9 (.c (.str [99,97,110,110,111,116,32,98,101,32,110,101,103,97,116,105,118,101]))),oZ (.extract (.c .nilp) 0)]) .skip))
 (.seq (oQ [oM 8 1,oM 9 0,oW 10 (.cap (.t 9)),oM 11 0,oW 12 (.len 1 (.t 11)),oW 13 (.arith .sub (.t 10) (.t 12)),oW 14 (.arith .sub (.t 8) (.t 13)),oM 1 14]
 (oQ [oM 15 1,oW 16 (.arith .gtr (.t 15) (oI 0))]
 (.cond (.t 16) (.region [oM 17 0,oM 18 0,oW 19 (.cap (.t 18)),oW 20 (.sliceSl 7 (.t 17) none (some (.t 19))),oM 21 1,oW 22 (.appendZ 49 7 88 (.agg [.int .i64 0,.int .i64 0,.int .i64 0,.int .i64 0,.int .i64 0,.nsl,.nsl]) (.t 20) (.t 21)),oM 23 0,oW 24 (.len 1 (.t 23)),oW 25 (.sliceSl 7 (.t 22) none (some (.t 24))),oM 0 25]) .skip)))
 (oQ [oM 26 0,oM 4 26]
 .ret))))}
theorem VT:aB Tryz.prog Tryz.f338 .full=some MX:=by kernel_rfl
def MW:aD:={ntmps:=14,results:=[],mode:=.full,body :=
 (oQ [oM 4 0,oM 5 1,oW 6 (.sliceSl 3 (.t 4) none (some (.t 5))),oW 7 (.call (oF 365) [.t 6])]
 (oQ [oM 8 0,oM 9 1,oW 10 (.sliceSl 3 (.t 8) (some (.t 9)) none),oW 11 (.call (oF 365) [.t 10])]
 (.region [oM 12 0,oW 13 (.call (oF 365) [.t 12])])))}
theorem VS:aB Tryz.prog Tryz.f339 .full=some MW:=by kernel_rfl
def MV:aD:={ntmps:=14,results:=[],mode:=.full,body :=
 (oQ [oM 4 0,oM 5 1,oW 6 (.sliceSl 4 (.t 4) none (some (.t 5))),oW 7 (.call (oF 367) [.t 6])]
 (oQ [oM 8 0,oM 9 1,oW 10 (.sliceSl 4 (.t 8) (some (.t 9)) none),oW 11 (.call (oF 367) [.t 10])]
 (.region [oM 12 0,oW 13 (.call (oF 367) [.t 12])])))}
theorem VQ:aB Tryz.prog Tryz.f344 .full=some MV:=by kernel_rfl
def MU:aD:={ntmps:=14,results:=[],mode:=.full,body :=
 (oQ [oM 4 0,oM 5 1,oW 6 (.sliceSl 2 (.t 4) none (some (.t 5))),oW 7 (.call (oF 368) [.t 6])]
 (oQ [oM 8 0,oM 9 1,oW 10 (.sliceSl 2 (.t 8) (some (.t 9)) none),oW 11 (.call (oF 368) [.t 10])]
 (.region [oM 12 0,oW 13 (.call (oF 368) [.t 12])])))}
theorem VP:aB Tryz.prog Tryz.f345 .full=some MU:=by kernel_rfl
def EO:aG :=
 (.seq (oQ [oM 15 9,oM 16 10,oW 17 (.arith .lss (.t 15) (.t 16))]
 (.cond (.t 17) .skip (.exit 0)))
 (.block 1 (oQ [oM 18 9,oM 19 10,oW 20 (.arith .add (.t 18) (.t 19)),oW 21 (.conv .u64 (.t 20)),oW 22 (.arith .shr (.t 21) (.c (.int .u64 1))),oW 23 (.conv .i64 (.t 22)),oM 11 23]
 (oQ [oM 24 2,oM 25 0,oM 26 11,oW 27 (.indexAddr 5 (.t 25) (.t 26)),oL 28 5 27,oM 29 1,oW 30 (.call (.t 24) [.t 28,.t 29]),oW 31 (.arith .lss (.t 30) (oI 0))]
 (.cond (.t 31) (.region [oM 32 11,oW 33 (.arith .add (.t 32) (oI 1)),oM 9 33]) (.region [oM 34 11,oM 10 34]))))))
def EP:aG :=
 (oQ [oM 35 9,oM 36 9,oM 37 8,oW 38 (.arith .lss (.t 36) (.t 37)),oM 39 38,gM 40 2 39 true,gM 41 0 39 true,gM 42 9 39 true,gW 43 (.indexAddr 5 (.t 41) (.t 42)) 39 true,gL 44 5 43 39 true,gM 45 1 39 true,gW 46 (.call (.t 40) [.t 44,.t 45]) 39 true,gW 47 (.arith .eql (.t 46) (oI 0)) 39 true,oW 48 (.pick (.t 39) (.t 47) (oB false)),oM 6 35,oM 7 48]
 .ret)
def MT:aD:={ntmps:=49,results:=[.t 6,.t 7],mode:=.pure,body :=
 (oQ [oW 6 (.move (oI 0)),oW 7 (.move (oB false))]
 (oQ [oM 12 0,oW 13 (.len 1 (.t 12)),oM 8 13]
 (oQ [oM 14 8,oW 9 (.move (oI 0)),oM 10 14]
 (.seq (.block 0 (.loop EO))
 EP))))}
theorem VO:aB Tryz.prog Tryz.f346 .pure=some MT:=by kernel_rfl
def MS:aD:={ntmps:=9,results:=[.t 4],mode:=.pure,body :=
 (oQ [oW 2 (.box 119 5 (.t 0)),oW 4 (.move (oI 0))]
 (oQ [oA 5 0 2,oD 6 5,oM 7 1,oW 8 (.call (oF 348) [.t 6,.t 7]),oM 4 8]
 .ret))}
theorem VN:aB Tryz.prog Tryz.f347 .pure=some MS:=by kernel_rfl
def MR:aD:={ntmps:=8,results:=[.t 4],mode:=.pure,body :=
 (oQ [oW 4 (.move (oI 0))]
 (oQ [oM 5 0,oM 6 1,oW 7 (.call (oF 369) [.t 5,.t 6]),oM 4 7]
 .ret))}
theorem VM:aB Tryz.prog Tryz.f348 .pure=some MR:=by kernel_rfl
def MQ:aD:={ntmps:=69,results:=[(.cell 4 (some 5)),.t 5],mode:=.pure,body :=
 (oQ [oW 2 (.box 119 5 (.t 0)),oW 3 (.box 119 5 (.t 1)),oW 4 (.alloc 119 5 (.agg [.str [],.int .i64 0,.int .i64 0,.int .i64 0,.str []])),oW 5 (.move (oB false))]
 (oQ [oW 7 (.build [.str [],.int .i64 0,.int .i64 0,.int .i64 0,.str []] []),oW 6 (.alloc 119 5 (.agg [.str [],.int .i64 0,.int .i64 0,.int .i64 0,.str []])),oS 5 6 7]
 (.seq (oQ [oA 8 1 2,oD 9 8,oA 10 1 3,oD 11 10,oW 12 (.arith .gtr (.t 9) (.t 11))]
 (.cond (.t 12) (.region [oL 13 5 3,oL 14 5 2,oS 5 2 13,oS 5 3 14]) .skip))
 (.seq (oQ [oA 15 1 2,oD 16 15]
 (.block 0 (.seq (.block 3 (.seq (.block 2 (.seq (.block 1 (.seq (.seq (oQ [oW 18 (.arith .eql (.t 16) (oI 1)),oM 17 18]
 (.cond (.t 17) (.exit 1) .skip))
 (.seq (oQ [oW 20 (.arith .eql (.t 16) (oI 3)),oM 19 20]
 (.cond (.t 19) (.exit 2) .skip))
 (oQ [oW 22 (.arith .eql (.t 16) (oI 2)),oM 21 22]
 (.cond (.t 21) (.exit 3) .skip))))
 (.exit 0)))
 (.seq (.seq (oQ [oA 23 1 3,oD 24 23,oW 25 (.arith .neq (.t 24) (oI 1)),oM 26 25,gA 27 2 2 26 false,gD 28 27 26 false,gA 29 2 3 26 false,gD 30 29 26 false,gW 31 (.minmax true (.t 28) (.t 30)) 26 false,gA 32 3 2 26 false,gD 33 32 26 false,gA 34 3 3 26 false,gD 35 34 26 false,gW 36 (.minmax false (.t 33) (.t 35)) 26 false,gW 37 (.arith .gtr (.t 31) (.t 36)) 26 false,oW 38 (.pick (.t 26) (oB true) (.t 37))]
 (.cond (.t 38) (oQ [oL 39 5 6,oS 5 4 39,oW 5 (.move (oB false))]
 .ret) .skip))
 (.seq (.draw [oRA 40 2 2,⟨(some 41),.load none (.t 40),none,.read,0,true⟩,oRA 42 2 3,⟨(some 43),.load none (.t 42),none,.read,0,true⟩,oRA 45 3 2,⟨(some 46),.load none (.t 45),none,.read,0,true⟩,oRA 47 3 3,oRD 48 47,oR 44 (.minmax true (.t 41) (.t 43)),oRA 50 2 2,⟨none,.store 1 (.t 50) (.t 44),none,.create,0,false⟩,oR 49 (.minmax false (.t 46) (.t 48)),nK 51 (.fieldAddr 3 (.t 2)) .read 1,⟨none,.store 1 (.t 51) (.t 49),none,.write,1,false⟩])
 (oQ [oL 52 5 2,oS 5 4 52,oW 5 (.move (oB true))]
 .ret)))
 (.exit 0))))
 (oQ [oA 53 4 2,oD 54 53,oW 55 (.len 0 (.t 54)),oA 56 4 3,oD 57 56,oW 58 (.len 0 (.t 57)),oW 59 (.arith .lss (.t 55) (.t 58))]
 (.cond (.t 59) (.region [oL 60 5 3,oL 61 5 2,oS 5 2 60,oS 5 3 61]) .skip))))
 (.seq (.seq (.draw [oRL 62 5 3,oRA 63 4 2,oRD 64 63,nK 65 (.call (oF 321) [.t 64]) .create 0,nK 66 (.call (oF 318) [.t 62,.t 65]) .write 1])
 (.cond (.t 66) (oQ [oL 67 5 2,oS 5 4 67,oW 5 (.move (oB true))]
 .ret) .skip))
 (.exit 0)))))
 (oQ [oL 68 5 6,oS 5 4 68,oW 5 (.move (oB false))]
 .ret)))))}
theorem VL:aB Tryz.prog Tryz.f349 .pure=some MQ:=by kernel_rfl
def EM:aD:={ntmps:=95,results:=[.t 6],mode:=.split,body :=
 (oQ [oW 6 (.move (.c .nsl))]
 (oQ [oM 10 0,oM 11 1,oW 12 (.sliceSl 5 (.t 10) (some (.t 11)) none)]
 (oQ [oM 13 2,oW 14 (.len 1 (.t 13)),oM 7 14]
 (.seq (oQ [oM 15 7,oW 16 (.arith .eql (.t 15) (oI 0))]
 (.cond (.t 16) (oQ [oM 17 0,oM 6 17]
 .ret) .skip))
 (oQ [oM 18 0,oW 19 (.len 1 (.t 18)),oM 8 19]
 (.seq (oQ [oM 20 1,oM 21 8,oW 22 (.arith .eql (.t 20) (.t 21))]
 (.cond (.t 22) (oQ [oM 23 0,oM 24 2,oW 25 (.append 119 5 56 (.t 23) (.t 24)),oM 6 25]
 .ret) .skip))
 (.seq (oQ [oM 26 8,oM 27 7,oW 28 (.arith .add (.t 26) (.t 27)),oM 29 0,oW 30 (.cap (.t 29)),oW 31 (.arith .gtr (.t 28) (.t 30))]
 (.cond (.t 31) (oQ [oM 32 0,oM 33 1,oW 34 (.sliceSl 5 (.t 32) none (some (.t 33))),oM 35 8,oM 36 7,oW 37 (.arith .add (.t 35) (.t 36)),oM 38 1,oW 39 (.arith .sub (.t 37) (.t 38)),oW 40 (.appendZ 119 5 56 (.agg [.str [],.int .i64 0,.int .i64 0,.int .i64 0,.str []]) (.t 34) (.t 39)),oM 9 40]
 (oQ [oM 41 9,oM 42 1,oW 43 (.sliceSl 5 (.t 41) (some (.t 42)) none),oM 44 2,oW 45 (.copy 5 (.t 43) (.t 44))]
 (.seq (.draw [oRM 46 9,oRM 47 1,oRM 48 7,oR 49 (.arith .add (.t 47) (.t 48)),oR 50 (.sliceSl 5 (.t 46) (some (.t 49)) none),oRM 51 0,oRM 52 1,oR 53 (.sliceSl 5 (.t 51) (some (.t 52)) none),oW 54 (.copy 5 (.t 50) (.t 53))])
 (oQ [oM 55 9,oM 6 55]
 .ret)))) .skip))
 (oQ [oM 56 0,oM 57 8,oM 58 7,oW 59 (.arith .add (.t 57) (.t 58)),oW 60 (.sliceSl 5 (.t 56) none (some (.t 59))),oM 0 60]
 (.seq (oQ [oM 61 2,oM 62 0,oM 63 1,oM 64 7,oW 65 (.arith .add (.t 63) (.t 64)),oW 66 (.sliceSl 5 (.t 62) (some (.t 65)) none),oW 67 (.call (oF 370) [.t 61,.t 66]),oW 68 (.un .not (.t 67))]
 (.cond (.t 68) (.seq (.draw [oRM 69 0,oRM 70 1,oRM 71 7,oR 72 (.arith .add (.t 70) (.t 71)),oR 73 (.sliceSl 5 (.t 69) (some (.t 72)) none),oRM 74 0,oRM 75 1,oR 76 (.sliceSl 5 (.t 74) (some (.t 75)) none),oW 77 (.copy 5 (.t 73) (.t 76))])
 (oQ [oM 78 0,oM 79 1,oW 80 (.sliceSl 5 (.t 78) (some (.t 79)) none),oM 81 2,oW 82 (.copy 5 (.t 80) (.t 81))]
 (oQ [oM 83 0,oM 6 83]
 .ret))) .skip))
 (oQ [oM 84 0,oM 85 8,oW 86 (.sliceSl 5 (.t 84) (some (.t 85)) none),oM 87 2,oW 88 (.copy 5 (.t 86) (.t 87))]
 (oQ [oM 89 0,oM 90 1,oW 91 (.sliceSl 5 (.t 89) (some (.t 90)) none),oM 92 7,oW 93 (.call (oF 371) [.t 91,.t 92])]
 (oQ [oM 94 0,oM 6 94]
 .ret))))))))))))}
theorem VK:aB Tryz.prog Tryz.f350 .split=some EM:=by kernel_rfl
def MP:aD:={ntmps:=5,results:=[(.cell 2 (some 3))],mode:=.pure,body :=
 (oQ [oW 2 (.alloc 174 3 (.agg [.bool false,.int .i64 0,.str []]))]
 (oQ [oM 3 0,oW 4 (.build [.bool false,.int .i64 0,.str []] [(1,1,.t 3)]),oS 3 2 4]
 .ret))}
theorem VJ:aB Tryz.prog Tryz.f351 .pure=some MP:=by kernel_rfl
def MO:aD:={ntmps:=14,results:=[],mode:=.full,body :=
 (oQ [oM 4 0,oM 5 1,oW 6 (.sliceSl 7 (.t 4) none (some (.t 5))),oW 7 (.call (oF 372) [.t 6])]
 (oQ [oM 8 0,oM 9 1,oW 10 (.sliceSl 7 (.t 8) (some (.t 9)) none),oW 11 (.call (oF 372) [.t 10])]
 (.region [oM 12 0,oW 13 (.call (oF 372) [.t 12])])))}
theorem VI:aB Tryz.prog Tryz.f352 .full=some MO:=by kernel_rfl
def MN:aD:={ntmps:=18,results:=[.t 4],mode:=.pure,body :=
 (oQ [oW 4 (.move (oB false))]
 (oQ [oM 5 0,oW 6 (.len 0 (.t 5)),oM 7 1,oW 8 (.len 0 (.t 7)),oW 9 (.arith .geq (.t 6) (.t 8)),oM 10 9,gM 11 0 10 true,gM 12 1 10 true,gW 13 (.len 0 (.t 12)) 10 true,gW 14 (.sliceStr (.t 11) none (some (.t 13))) 10 true,gM 15 1 10 true,gW 16 (.arith .eql (.t 14) (.t 15)) 10 true,oW 17 (.pick (.t 10) (.t 16) (oB false)),oM 4 17]
 .ret))}
theorem VH:aB Tryz.prog Tryz.f353 .pure=some MN:=by kernel_rfl
def EK:aG :=
 (oQ [oW 9 (.arith .lss (.t 8) (.t 7))]
 (.seq (.cond (.t 9) .skip (.exit 0))
 (.seq (.block 1 (oQ [oM 10 8,oM 5 10]
 (oQ [oM 11 1,oM 12 0,oM 13 5,oW 14 (.indexAddr 2 (.t 12) (.t 13)),oL 15 2 14,oW 16 (.call (.t 11) [.t 15])]
 (.cond (.t 16) (oQ [oM 17 5,oM 4 17]
 .ret) .skip))))
 (.region [oW 18 (.arith .add (.t 8) (oI 1)),oM 8 18]))))
def EL:aG :=
 (oQ [oW 4 (.move (oI (-1)))]
 .ret)
def MM:aD:={ntmps:=19,results:=[.t 4],mode:=.pure,body :=
 (oQ [oW 4 (.move (oI 0))]
 (.seq (oQ [oM 6 0,oW 7 (.len 1 (.t 6)),oW 8 (.move (oI 0))]
 (.block 0 (.loop EK)))
 EL))}
theorem VG:aB Tryz.prog Tryz.f355 .pure=some MM:=by kernel_rfl
def ML:aD:={ntmps:=8,results:=[.t 3],mode:=.pure,body :=
 (oQ [oW 2 (.box 420 2 (.t 0)),oW 3 (.move (oB false))]
 (oQ [oA 4 0 2,oD 5 4,oD 6 1,oW 7 (.arith .eql (.t 5) (.t 6)),oM 3 7]
 .ret))}
theorem VF:aB Tryz.prog Tryz.f356 .pure=some ML:=by kernel_rfl
def EI:aG :=
 (.seq (oQ [oM 16 6,oM 17 0,oW 18 (.len 1 (.t 17)),oW 19 (.arith .lss (.t 16) (.t 18))]
 (.cond (.t 19) .skip (.exit 0)))
 (.seq (.block 1 (oQ [oM 22 0,oM 23 6,oW 24 (.indexAddr 2 (.t 22) (.t 23)),oL 25 2 24,oW 7 (.alloc 420 2 (.agg [.int .i64 0,.nsl])),oS 2 7 25]
 (oQ [oM 26 1,oL 27 2 7,oW 28 (.call (.t 26) [.t 27]),oW 29 (.un .not (.t 28))]
 (.cond (.t 29) (oQ [oM 30 0,oM 31 5,oL 32 2 7,oW 33 (.indexAddr 2 (.t 30) (.t 31)),oS 2 33 32]
 (.region [oM 34 5,oW 35 (.arith .add (.t 34) (oI 1)),oM 5 35])) .skip))))
 (.region [oM 20 6,oW 21 (.arith .add (.t 20) (oI 1)),oM 6 21])))
def EJ:aG :=
 (oQ [oM 36 0,oM 37 5,oW 38 (.sliceSl 2 (.t 36) (some (.t 37)) none),oZ (.clear 2 (.agg [.int .i64 0,.nsl]) (.t 38))]
 (oQ [oM 39 0,oM 40 5,oW 41 (.sliceSl 2 (.t 39) none (some (.t 40))),oM 4 41]
 .ret))
def MK:aD:={ntmps:=42,results:=[.t 4],mode:=.full,body :=
 (oQ [oW 4 (.move (.c .nsl))]
 (oQ [oM 8 0,oM 9 1,oW 10 (.call (oF 355) [.t 8,.t 9]),oM 5 10]
 (.seq (oQ [oM 11 5,oW 12 (.arith .eql (.t 11) (oI (-1)))]
 (.cond (.t 12) (oQ [oM 13 0,oM 4 13]
 .ret) .skip))
 (.seq (oQ [oM 14 5,oW 15 (.arith .add (.t 14) (oI 1)),oM 6 15]
 (.block 0 (.loop EI)))
 EJ))))}
theorem VE:aB Tryz.prog Tryz.f357 .full=some MK:=by kernel_rfl
def MJ:aD:={ntmps:=8,results:=[.t 3],mode:=.pure,body :=
 (oQ [oW 2 (.box 420 2 (.t 0)),oW 3 (.move (oB false))]
 (oQ [oA 4 0 2,oD 5 4,oD 6 1,oW 7 (.arith .eql (.t 5) (.t 6)),oM 3 7]
 .ret))}
theorem VD:aB Tryz.prog Tryz.f359 .pure=some MJ:=by kernel_rfl
def MI:aD:={ntmps:=10,results:=[(.cell 3 (some 6)),.t 4],mode:=.full,body :=
 (oQ [oW 2 (.box 37 6 (.t 0)),oW 3 (.alloc 37 6 (.agg [.int .i64 0,.nsl,.nsl,.nsl,.nsl,.nsl])),oW 4 (.move (.c .nsl))]
 (oQ [oL 5 6 2,oL 6 2 1,oW 7 (.call (oF 79) [.t 5,(oI (-1)),.t 6]),oX 8 7 0,oX 9 7 1,oS 6 3 8,oM 4 9]
 .ret))}
theorem VC:aB Tryz.prog Tryz.f360 .full=some MI:=by kernel_rfl
def MH:aD:={ntmps:=10,results:=[(.cell 3 (some 6)),.t 4],mode:=.full,body :=
 (oQ [oW 2 (.box 37 6 (.t 0)),oW 3 (.alloc 37 6 (.agg [.int .i64 0,.nsl,.nsl,.nsl,.nsl,.nsl])),oW 4 (.move (.c .nsl))]
 (oQ [oL 5 6 2,oL 6 2 1,oW 7 (.call (oF 362) [.t 5,.t 6]),oX 8 7 0,oX 9 7 1,oS 6 3 8,oM 4 9]
 .ret))}
theorem VB:aB Tryz.prog Tryz.f361 .full=some MH:=by kernel_rfl
end Go.Dm.Tc
