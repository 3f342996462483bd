/- A part of the proof. -/
import Derived.Test.YtegofjiikhlokaaGreatDoorTc0
import Derived.Test.YtegofjiikhlokaaGreatDoorMm3
import Derived.Test.YtegofjiikhlokaaGreatDoorRows
import Derived.KernelRfl
namespace Go.Dm.Tc
open Go.Proofs
def G9:aN :=
 (.seq (oQ [oM 15 9,oM 16 10,oW 17 (.arith .lss (.t 15) (.t 16))]
 (.cond (.t 17) .skip (.exit 0)))
 (.block 1 (oQ [oM 18 9,oM 19 10,oW 20 (.arith .add (.t 18) (.t 19)),oW 21 (.conv .u64 (.t 20)),oW 22 (.arith .shr (.t 21) (.c (.int .u64 1))),oW 23 (.conv .i64 (.t 22)),oM 11 23]
 (.seq (.draw [oRM 25 0,oRM 26 11,oR 27 (.indexAddr 7 (.t 25) (.t 26)),oRL 28 7 27,oRL 29 2 4,oRM 24 2,oW 30 (.call (.t 24) [.t 28,.t 29]),nK 31 (.arith .lss (.t 30) (oI 0)) .read 1])
 (.cond (.t 31) (.region [oM 32 11,oW 33 (.arith .add (.t 32) (oI 1)),oM 9 33]) (.region [oM 34 11,oM 10 34]))))))
def Qf:aN :=
 (.seq (.draw [oRM 36 9,oRM 37 8,oR 38 (.arith .lss (.t 36) (.t 37)),oRM 39 38,rM 41 0 39 true,rM 42 9 39 true,rW 43 (.indexAddr 7 (.t 41) (.t 42)) 39 true,rL 44 7 43 39 true,rL 45 2 4 39 true,rM 40 2 39 true,gW 46 (.call (.t 40) [.t 44,.t 45]) 39 true,oRM 35 9,⟨(some 47),.arith .eql (.t 46) (oI 0),(some (39,true)),.read,1,false⟩,nK 48 (.pick (.t 39) (.t 47) (oB false)) .read 1,nK 6 (.move (.t 35)) .read 1,nK 7 (.move (.t 48)) .read 1])
 .ret)
def CV:aQ:={ntmps:=49,results:=[.t 6,.t 7],mode:=.pure,body :=
 (oQ [oW 4 (.box 40 2 (.t 1)),oW 6 (.move (oI 0)),oW 7 (.move (oB false))]
 (oQ [oM 12 0,oW 13 (.len 1 (.t 12)),oM 8 13]
 (oQ [oM 14 8,oW 9 (.move (oI 0)),oM 10 14]
 (.seq (.block 0 (.loop G9))
 Qf))))}
theorem c194:aE Tryz.prog Tryz.f194 .pure=some CV:=by kernel_rfl
def Vz:aQ:={ntmps:=34,results:=[.t 5],mode:=.pure,body :=
 (oQ [oW 3 (.box 114 7 (.t 0)),oW 4 (.box 40 2 (.t 1)),oW 5 (.move (oI 0))]
 (.seq (.block 0 (oQ [oA 7 0 3,oL 8 2 7,oL 9 2 2,oW 10 (.eqa false [1,1] (.t 8) (.t 9)),oM 11 10,gA 12 2 3 11 true,gL 13 2 12 11 true,gL 14 2 4 11 true,gW 15 (.eqa false [1,1] (.t 13) (.t 14)) 11 true,oW 16 (.pick (.t 11) (.t 15) (oB false)),oM 6 16]
 (.cond (.t 6) (oQ [oW 5 (.move (oI 0))]
 .ret) (oQ [oA 18 0 3,oL 19 2 18,oL 20 2 2,oW 21 (.call (oF 70) [.t 19,.t 20]),oM 22 21,gA 23 0 3 22 false,gL 24 2 23 22 false,gL 25 2 2 22 false,gW 26 (.eqa false [1,1] (.t 24) (.t 25)) 22 false,gM 27 26 22 false,gA 28 2 3 27 true,gL 29 2 28 27 true,gL 30 2 4 27 true,gW 31 (.call (oF 70) [.t 29,.t 30]) 27 true,gW 32 (.pick (.t 27) (.t 31) (oB false)) 22 false,oW 33 (.pick (.t 22) (oB true) (.t 32)),oM 17 33]
 (.cond (.t 17) (oQ [oW 5 (.move (oI (-1)))]
 .ret) .skip)))))
 (oQ [oW 5 (.move (oI 1))]
 .ret)))}
theorem c195:aE Tryz.prog Tryz.f195 .pure=some Vz:=by kernel_rfl
def t197:aQ:={ntmps:=10,results:=[],mode:=.full,body :=
 (.region [oM 4 0,oM 5 0,oW 6 (.len 1 (.t 5)),oM 7 1,oW 8 (.arith .sub (.t 6) (.t 7)),oW 9 (.call (oF 224) [.t 4,.t 8])])}
theorem c197:aE Tryz.prog Tryz.f197 .full=some t197:=by kernel_rfl
def CU:aQ:={ntmps:=33,results:=[.t 6],mode:=.full,body :=
 (oQ [oW 6 (.move (.c .nsl))]
 (oQ [oM 8 0,oM 9 1,oM 10 2,oM 11 0,oW 12 (.len 1 (.t 11)),oW 13 (.slice3 (.t 8) (.t 9) (.t 10) (.t 12))]
 (.seq (oQ [oM 14 1,oM 15 2,oW 16 (.arith .eql (.t 14) (.t 15))]
 (.cond (.t 16) (oQ [oM 17 0,oM 6 17]
 .ret) .skip))
 (oQ [oM 18 0,oW 19 (.len 1 (.t 18)),oM 7 19]
 (.seq (.draw [oRM 20 0,oRM 21 1,oR 22 (.sliceSl 7 (.t 20) none (some (.t 21))),oRM 23 0,oRM 24 2,oR 25 (.sliceSl 7 (.t 23) (some (.t 24)) none),oW 26 (.append 114 7 72 (.t 22) (.t 25)),nK 0 (.move (.t 26)) .read 1])
 (oQ [oM 27 0,oM 28 0,oW 29 (.len 1 (.t 28)),oM 30 7,oW 31 (.sliceSl 7 (.t 27) (some (.t 29)) (some (.t 30))),oZ (.clear 7 (.agg [.int .i64 0,.int .i64 0,.int .i64 0,.int .i64 0,.nsl,.int .i64 0,.bool false]) (.t 31))]
 (oQ [oM 32 0,oM 6 32]
 .ret)))))))}
theorem c198:aE Tryz.prog Tryz.f198 .full=some CU:=by kernel_rfl
def Qe:aN :=
 (oQ [oW 11 (.arith .lss (.t 10) (.t 9))]
 (.seq (.cond (.t 11) .skip (.exit 0))
 (.seq (.block 1 (oQ [oW 12 (.indexAddr 4 (.t 8) (.t 10)),oL 13 4 12,oW 7 (.alloc 108 4 (.agg [.str [],.bool false,.int .i64 0,.str []])),oS 4 7 13]
 (oQ [oA 14 0 7,oD 15 14,oM 16 1,oW 17 (.arith .eql (.t 15) (.t 16))]
 (.cond (.t 17) (oQ [oA 18 1 7,oL 19 3 18,oS 3 4 19,oW 5 (.move (oB true))]
 .ret) .skip))))
 (.region [oW 20 (.arith .add (.t 10) (oI 1)),oM 10 20]))))
def G8:aN :=
 (oQ [oW 21 (.build [.bool false,.int .i64 0,.str []] []),oS 3 4 21,oW 5 (.move (oB false))]
 .ret)
def CT:aQ:={ntmps:=22,results:=[(.cell 4 (some 3)),.t 5],mode:=.pure,body :=
 (oQ [oW 4 (.alloc 106 3 (.agg [.bool false,.int .i64 0,.str []])),oW 5 (.move (oB false))]
 (.seq (oQ [oM 8 0,oW 9 (.len 1 (.t 8)),oW 10 (.move (oI 0))]
 (.block 0 (.loop Qe)))
 G8))}
theorem c199:aE Tryz.prog Tryz.f199 .pure=some CT:=by kernel_rfl
def Ae:aQ:={ntmps:=48,results:=[.t 4],mode:=.pure,body :=
 (oQ [oW 2 (.box 96 5 (.t 0)),oW 3 (.box 106 3 (.t 1)),oW 4 (.move (oB false))]
 (.seq (oQ [oA 5 1 2,oD 6 5]
 (.block 0 (oQ [oW 8 (.arith .eql (.t 6) (oI 1)),oM 7 8]
 (.cond (.t 7) (oQ [oA 9 0 3,oD 10 9,oW 11 (.un .not (.t 10)),oM 12 11,gA 13 2 2 12 true,gD 14 13 12 true,gA 15 1 3 12 true,gD 16 15 12 true,gW 17 (.arith .leq (.t 14) (.t 16)) 12 true,oW 18 (.pick (.t 12) (.t 17) (oB false)),oM 19 18,gA 20 1 3 19 true,gD 21 20 19 true,gA 22 3 2 19 true,gD 23 22 19 true,gW 24 (.arith .leq (.t 21) (.t 23)) 19 true,oW 25 (.pick (.t 19) (.t 24) (oB false)),oM 4 25]
 .ret) (oQ [oW 27 (.arith .eql (.t 6) (oI 2)),oM 26 27]
 (.cond (.t 26) (oQ [oA 28 0 3,oD 29 28,oM 30 29,gA 31 2 3 30 true,gD 32 31 30 true,gA 33 4 2 30 true,gD 34 33 30 true,gW 35 (.arith .eql (.t 32) (.t 34)) 30 true,oW 36 (.pick (.t 30) (.t 35) (oB false)),oM 4 36]
 .ret) (oQ [oW 38 (.arith .eql (.t 6) (oI 3)),oM 37 38]
 (.cond (.t 37) (oQ [oA 39 0 3,oD 40 39,oM 41 40,gA 42 2 3 41 true,gD 43 42 41 true,gA 44 4 2 41 true,gD 45 44 41 true,gW 46 (.call (oF 213) [.t 43,.t 45]) 41 true,oW 47 (.pick (.t 41) (.t 46) (oB false)),oM 4 47]
 .ret) .skip))))))))
 (oQ [oW 4 (.move (oB false))]
 .ret)))}
theorem c200:aE Tryz.prog Tryz.f200 .pure=some Ae:=by kernel_rfl
def Qd:aN :=
 (.seq (.seq (.draw [oRM 16 7,oRM 17 1,oR 18 (.arith .gtr (.t 16) (.t 17)),oRM 19 18,rM 20 0 19 true,rM 21 7 19 true,rW 22 (.indexAddr 1 (.t 20) (.t 21)) 19 true,rD 23 22 19 true,rM 24 0 19 true,rM 25 7 19 true,rW 26 (.arith .sub (.t 25) (oI 1)) 19 true,rW 27 (.indexAddr 1 (.t 24) (.t 26)) 19 true,rD 28 27 19 true,gW 29 (.call (oF 207) [.t 23,.t 28]) 19 true,nK 30 (.pick (.t 19) (.t 29) (oB false)) .read 1])
 (.cond (.t 30) .skip (.exit 2)))
 (.seq (.block 3 (.draw [oRM 38 0,oRM 39 7,oR 40 (.arith .sub (.t 39) (oI 1)),oR 41 (.indexAddr 1 (.t 38) (.t 40)),oRD 42 41,oRM 43 0,oRM 44 7,oR 45 (.indexAddr 1 (.t 43) (.t 44)),oRD 46 45,oRM 33 0,oRM 34 7,oR 47 (.indexAddr 1 (.t 33) (.t 34)),oS 1 47 42,oRM 35 0,oRM 36 7,oR 37 (.arith .sub (.t 36) (oI 1)),nK 48 (.indexAddr 1 (.t 35) (.t 37)) .read 1,⟨none,.store 1 (.t 48) (.t 46),none,.write,1,false⟩]))
 (.region [oM 31 7,oW 32 (.arith .sub (.t 31) (oI 1)),oM 7 32])))
def KK:aN :=
 (.region [oM 13 6,oW 14 (.arith .add (.t 13) (oI 1)),oM 6 14])
def Ei:aN :=
 (.seq (oQ [oM 10 6,oM 11 2,oW 12 (.arith .lss (.t 10) (.t 11))]
 (.cond (.t 12) .skip (.exit 0)))
 (.seq (.block 1 (oQ [oM 15 6,oM 7 15]
 (.block 2 (.loop Qd))))
 KK))
def G7:aQ:={ntmps:=49,results:=[],mode:=.full,body :=
 (oQ [oM 8 1,oW 9 (.arith .add (.t 8) (oI 1)),oM 6 9]
 (.block 0 (.loop Ei)))}
theorem c201:aE Tryz.prog Tryz.f201 .full=some G7:=by kernel_rfl
def YJ:aN :=
 (.seq (oQ [oM 18 9,oW 19 (.arith .geq (.t 18) (oI 0))]
 (.cond (.t 19) .skip (.exit 0)))
 (.seq (.block 1 (.region [oM 22 0,oM 23 9,oM 24 8,oM 25 6,oW 26 (.call (oF 225) [.t 22,.t 23,.t 24,.t 25])]))
 (.region [oM 20 9,oW 21 (.arith .sub (.t 20) (oI 1)),oM 9 21])))
def YI:aN :=
 (.seq (oQ [oM 29 10,oW 30 (.arith .geq (.t 29) (oI 0))]
 (.cond (.t 30) .skip (.exit 2)))
 (.seq (.block 3 (.seq (.draw [oRM 39 0,oRM 40 6,oRM 41 10,oR 42 (.arith .add (.t 40) (.t 41)),oR 43 (.indexAddr 1 (.t 39) (.t 42)),oRD 44 43,oRM 45 0,oRM 46 6,oR 47 (.indexAddr 1 (.t 45) (.t 46)),oRD 48 47,oRM 33 0,oRM 34 6,oR 49 (.indexAddr 1 (.t 33) (.t 34)),oS 1 49 44,oRM 35 0,oRM 36 6,oRM 37 10,oR 38 (.arith .add (.t 36) (.t 37)),nK 50 (.indexAddr 1 (.t 35) (.t 38)) .read 1,⟨none,.store 1 (.t 50) (.t 48),none,.write,1,false⟩])
 (.region [oM 51 0,oM 52 7,oM 53 10,oM 54 6,oW 55 (.call (oF 225) [.t 51,.t 52,.t 53,.t 54])])))
 (.region [oM 31 10,oW 32 (.arith .sub (.t 31) (oI 1)),oM 10 32])))
def YK:aN :=
 (oQ [oM 27 8,oW 28 (.arith .sub (.t 27) (oI 1)),oM 10 28]
 (.block 2 (.loop YI)))
def t202:aQ:={ntmps:=56,results:=[],mode:=.full,body :=
 (oQ [oM 11 1,oM 6 11]
 (oQ [oW 7 (.move (oI 0))]
 (oQ [oM 12 2,oM 13 1,oW 14 (.arith .sub (.t 12) (.t 13)),oM 8 14]
 (.seq (oQ [oM 15 8,oW 16 (.arith .sub (.t 15) (oI 1)),oW 17 (.arith .quo (.t 16) (oI 2)),oM 9 17]
 (.block 0 (.loop YJ)))
 YK))))}
theorem c202:aE Tryz.prog Tryz.f202 .full=some t202:=by kernel_rfl
def YH:aN :=
 (.seq (oQ [oM 26 9,oM 27 1,oM 28 6,oW 29 (.arith .quo (.t 28) (oI 4)),oW 30 (.arith .mul (.t 29) (oI 2)),oW 31 (.arith .add (.t 27) (.t 30)),oW 32 (.arith .add (.t 31) (oI 1)),oW 33 (.arith .leq (.t 26) (.t 32))]
 (.cond (.t 33) .skip (.exit 0)))
 (.seq (.block 1 (oQ [oW 36 (.call (oF 227) [.t 7]),oM 37 8,oW 38 (.arith .sub (.t 37) (.c (.int .u64 1))),oW 39 (.arith .and (.t 36) (.t 38)),oW 40 (.conv .i64 (.t 39)),oM 10 40]
 (.seq (oQ [oM 41 10,oM 42 6,oW 43 (.arith .geq (.t 41) (.t 42))]
 (.cond (.t 43) (.region [oM 44 10,oM 45 6,oW 46 (.arith .sub (.t 44) (.t 45)),oM 10 46]) .skip))
 (.draw [oRM 53 0,oRM 54 1,oRM 55 10,oR 56 (.arith .add (.t 54) (.t 55)),oR 57 (.indexAddr 1 (.t 53) (.t 56)),oRD 58 57,oRM 59 0,oRM 60 9,oR 61 (.indexAddr 1 (.t 59) (.t 60)),oRD 62 61,oRM 47 0,oRM 48 9,oR 63 (.indexAddr 1 (.t 47) (.t 48)),oS 1 63 58,oRM 49 0,oRM 50 1,oRM 51 10,oR 52 (.arith .add (.t 50) (.t 51)),nK 64 (.indexAddr 1 (.t 49) (.t 52)) .read 1,⟨none,.store 1 (.t 64) (.t 62),none,.write,1,false⟩]))))
 (.region [oM 34 9,oW 35 (.arith .add (.t 34) (oI 1)),oM 9 35])))
def t203:aQ:={ntmps:=65,results:=[],mode:=.full,body :=
 (oQ [oM 11 2,oM 12 1,oW 13 (.arith .sub (.t 11) (.t 12)),oM 6 13]
 (oQ [oM 14 6,oW 15 (.arith .geq (.t 14) (oI 8))]
 (.cond (.t 15) (oQ [oM 16 6,oW 17 (.conv .u64 (.t 16)),oW 7 (.alloc 286 1 (.int .u64 0)),oS 1 7 17]
 (oQ [oM 18 6,oW 19 (.call (oF 226) [.t 18]),oM 8 19]
 (oQ [oM 20 1,oM 21 6,oW 22 (.arith .quo (.t 21) (oI 4)),oW 23 (.arith .mul (.t 22) (oI 2)),oW 24 (.arith .add (.t 20) (.t 23)),oW 25 (.arith .sub (.t 24) (oI 1)),oM 9 25]
 (.block 0 (.loop YH))))) .skip)))}
theorem c203:aE Tryz.prog Tryz.f203 .full=some t203:=by kernel_rfl
def t204:aQ:={ntmps:=57,results:=[.t 6,.t 7],mode:=.full,body :=
 (oQ [oW 6 (.move (oI 0)),oW 7 (.move (oI 0))]
 (oQ [oM 13 2,oM 14 1,oW 15 (.arith .sub (.t 13) (.t 14)),oM 8 15]
 (oQ [oW 9 (.alloc 3 1 (.int .i64 0))]
 (oQ [oM 16 1,oM 17 8,oW 18 (.arith .quo (.t 17) (oI 4)),oW 19 (.arith .mul (.t 18) (oI 1)),oW 20 (.arith .add (.t 16) (.t 19)),oM 10 20]
 (oQ [oM 21 1,oM 22 8,oW 23 (.arith .quo (.t 22) (oI 4)),oW 24 (.arith .mul (.t 23) (oI 2)),oW 25 (.arith .add (.t 21) (.t 24)),oM 11 25]
 (oQ [oM 26 1,oM 27 8,oW 28 (.arith .quo (.t 27) (oI 4)),oW 29 (.arith .mul (.t 28) (oI 3)),oW 30 (.arith .add (.t 26) (.t 29)),oM 12 30]
 (.seq (oQ [oM 31 8,oW 32 (.arith .geq (.t 31) (oI 8))]
 (.cond (.t 32) (.seq (oQ [oM 33 8,oW 34 (.arith .geq (.t 33) (oI 50))]
 (.cond (.t 34) (oQ [oM 35 0,oM 36 10,oW 37 (.call (oF 228) [.t 35,.t 36,.t 9]),oM 10 37]
 (oQ [oM 38 0,oM 39 11,oW 40 (.call (oF 228) [.t 38,.t 39,.t 9]),oM 11 40]
 (.region [oM 41 0,oM 42 12,oW 43 (.call (oF 228) [.t 41,.t 42,.t 9]),oM 12 43]))) .skip))
 (.region [oM 44 0,oM 45 10,oM 46 11,oM 47 12,oW 48 (.call (oF 229) [.t 44,.t 45,.t 46,.t 47,.t 9]),oM 11 48])) .skip))
 (oQ [oD 49 9]
 (.block 0 (oQ [oW 52 (.arith .eql (.t 49) (oI 0)),oM 51 52]
 (.cond (.t 51) (oQ [oM 53 11,oM 6 53,oW 7 (.move (oI 1))]
 .ret) (oQ [oW 55 (.arith .eql (.t 49) (oI 12)),oM 54 55]
 (.cond (.t 54) (oQ [oM 56 11,oM 6 56,oW 7 (.move (oI 2))]
 .ret) (oQ [oM 50 11,oM 6 50,oW 7 (.move (oI 0))]
 .ret))))))))))))))}
theorem c204:aE Tryz.prog Tryz.f204 .full=some t204:=by kernel_rfl
def YG:aN :=
 (.seq (oQ [oM 11 6,oM 12 7,oW 13 (.arith .lss (.t 11) (.t 12))]
 (.cond (.t 13) .skip (.exit 0)))
 (.block 1 (.seq (.draw [oRM 18 0,oRM 19 7,oR 20 (.indexAddr 1 (.t 18) (.t 19)),oRD 21 20,oRM 22 0,oRM 23 6,oR 24 (.indexAddr 1 (.t 22) (.t 23)),oRD 25 24,oRM 14 0,oRM 15 6,oR 26 (.indexAddr 1 (.t 14) (.t 15)),oS 1 26 21,oRM 16 0,oRM 17 7,nK 27 (.indexAddr 1 (.t 16) (.t 17)) .read 1,⟨none,.store 1 (.t 27) (.t 25),none,.write,1,false⟩])
 (oQ [oM 28 6,oW 29 (.arith .add (.t 28) (oI 1)),oM 6 29]
 (.region [oM 30 7,oW 31 (.arith .sub (.t 30) (oI 1)),oM 7 31])))))
def t205:aQ:={ntmps:=32,results:=[],mode:=.full,body :=
 (oQ [oM 8 1,oM 6 8]
 (oQ [oM 9 2,oW 10 (.arith .sub (.t 9) (oI 1)),oM 7 10]
 (.block 0 (.loop YG))))}
theorem c205:aE Tryz.prog Tryz.f205 .full=some t205:=by kernel_rfl
def YB:aN :=
 (.seq (.seq (.draw [oRM 17 7,oRM 18 2,oR 19 (.arith .lss (.t 17) (.t 18)),oRM 20 19,rM 21 0 20 true,rM 22 7 20 true,rW 23 (.indexAddr 1 (.t 21) (.t 22)) 20 true,rD 24 23 20 true,rM 25 0 20 true,rM 26 7 20 true,rW 27 (.arith .sub (.t 26) (oI 1)) 20 true,rW 28 (.indexAddr 1 (.t 25) (.t 27)) 20 true,rD 29 28 20 true,gW 30 (.call (oF 207) [.t 24,.t 29]) 20 true,⟨(some 31),.un .not (.t 30),(some (20,true)),.read,1,false⟩,nK 32 (.pick (.t 20) (.t 31) (oB false)) .read 1])
 (.cond (.t 32) .skip (.exit 2)))
 (.block 3 (.region [oM 33 7,oW 34 (.arith .add (.t 33) (oI 1)),oM 7 34])))
def YA:aN :=
 (.seq (oQ [oM 64 9,oW 65 (.arith .geq (.t 64) (oI 1))]
 (.cond (.t 65) .skip (.exit 4)))
 (.seq (.block 5 (.seq (.seq (.draw [oRM 68 0,oRM 69 9,oR 70 (.indexAddr 1 (.t 68) (.t 69)),oRD 71 70,oRM 72 0,oRM 73 9,oR 74 (.arith .sub (.t 73) (oI 1)),oR 75 (.indexAddr 1 (.t 72) (.t 74)),oRD 76 75,oW 77 (.call (oF 207) [.t 71,.t 76]),nK 78 (.un .not (.t 77)) .read 1])
 (.cond (.t 78) (.exit 4) .skip))
 (.draw [oRM 84 0,oRM 85 9,oR 86 (.arith .sub (.t 85) (oI 1)),oR 87 (.indexAddr 1 (.t 84) (.t 86)),oRD 88 87,oRM 89 0,oRM 90 9,oR 91 (.indexAddr 1 (.t 89) (.t 90)),oRD 92 91,oRM 79 0,oRM 80 9,oR 93 (.indexAddr 1 (.t 79) (.t 80)),oS 1 93 88,oRM 81 0,oRM 82 9,oR 83 (.arith .sub (.t 82) (oI 1)),nK 94 (.indexAddr 1 (.t 81) (.t 83)) .read 1,⟨none,.store 1 (.t 94) (.t 92),none,.write,1,false⟩])))
 (.region [oM 66 9,oW 67 (.arith .sub (.t 66) (oI 1)),oM 9 67])))
def XZ:aN :=
 (.seq (oQ [oM 101 10,oM 102 2,oW 103 (.arith .lss (.t 101) (.t 102))]
 (.cond (.t 103) .skip (.exit 6)))
 (.seq (.block 7 (.seq (.seq (.draw [oRM 106 0,oRM 107 10,oR 108 (.indexAddr 1 (.t 106) (.t 107)),oRD 109 108,oRM 110 0,oRM 111 10,oR 112 (.arith .sub (.t 111) (oI 1)),oR 113 (.indexAddr 1 (.t 110) (.t 112)),oRD 114 113,oW 115 (.call (oF 207) [.t 109,.t 114]),nK 116 (.un .not (.t 115)) .read 1])
 (.cond (.t 116) (.exit 6) .skip))
 (.draw [oRM 122 0,oRM 123 10,oR 124 (.arith .sub (.t 123) (oI 1)),oR 125 (.indexAddr 1 (.t 122) (.t 124)),oRD 126 125,oRM 127 0,oRM 128 10,oR 129 (.indexAddr 1 (.t 127) (.t 128)),oRD 130 129,oRM 117 0,oRM 118 10,oR 131 (.indexAddr 1 (.t 117) (.t 118)),oS 1 131 126,oRM 119 0,oRM 120 10,oR 121 (.arith .sub (.t 120) (oI 1)),nK 132 (.indexAddr 1 (.t 119) (.t 121)) .read 1,⟨none,.store 1 (.t 132) (.t 130),none,.write,1,false⟩])))
 (.region [oM 104 10,oW 105 (.arith .add (.t 104) (oI 1)),oM 10 105])))
def YF:aN :=
 (oQ [oM 95 2,oM 96 7,oW 97 (.arith .sub (.t 95) (.t 96)),oW 98 (.arith .geq (.t 97) (oI 2))]
 (.cond (.t 98) (oQ [oM 99 7,oW 100 (.arith .add (.t 99) (oI 1)),oM 10 100]
 (.block 6 (.loop XZ))) .skip))
def YE:aN :=
 (.seq (oQ [oM 35 7,oM 36 2,oW 37 (.arith .eql (.t 35) (.t 36))]
 (.cond (.t 37) (oQ [oW 6 (.move (oB true))]
 .ret) .skip))
 (.seq (oQ [oM 38 2,oM 39 1,oW 40 (.arith .sub (.t 38) (.t 39)),oW 41 (.arith .lss (.t 40) (oI 50))]
 (.cond (.t 41) (oQ [oW 6 (.move (oB false))]
 .ret) .skip))
 (.seq (.draw [oRM 47 0,oRM 48 7,oR 49 (.arith .sub (.t 48) (oI 1)),oR 50 (.indexAddr 1 (.t 47) (.t 49)),oRD 51 50,oRM 52 0,oRM 53 7,oR 54 (.indexAddr 1 (.t 52) (.t 53)),oRD 55 54,oRM 42 0,oRM 43 7,oR 56 (.indexAddr 1 (.t 42) (.t 43)),oS 1 56 51,oRM 44 0,oRM 45 7,oR 46 (.arith .sub (.t 45) (oI 1)),nK 57 (.indexAddr 1 (.t 44) (.t 46)) .read 1,⟨none,.store 1 (.t 57) (.t 55),none,.write,1,false⟩])
 (.seq (oQ [oM 58 7,oM 59 1,oW 60 (.arith .sub (.t 58) (.t 59)),oW 61 (.arith .geq (.t 60) (oI 2))]
 (.cond (.t 61) (oQ [oM 62 7,oW 63 (.arith .sub (.t 62) (oI 1)),oM 9 63]
 (.block 4 (.loop YA))) .skip))
 YF))))
def YD:aN :=
 (.region [oM 15 8,oW 16 (.arith .add (.t 15) (oI 1)),oM 8 16])
def XY:aN :=
 (.seq (oQ [oM 13 8,oW 14 (.arith .lss (.t 13) (oI 5))]
 (.cond (.t 14) .skip (.exit 0)))
 (.seq (.block 1 (.seq (.block 2 (.loop YB))
 YE))
 YD))
def YC:aN :=
 (oQ [oW 6 (.move (oB false))]
 .ret)
def t206:aQ:={ntmps:=133,results:=[.t 6],mode:=.full,body :=
 (oQ [oW 6 (.move (oB false))]
 (oQ [oM 11 1,oW 12 (.arith .add (.t 11) (oI 1)),oM 7 12]
 (.seq (oQ [oW 8 (.move (oI 0))]
 (.block 0 (.loop XY)))
 YC)))}
theorem c206:aE Tryz.prog Tryz.f206 .full=some t206:=by kernel_rfl
def CS:aQ:={ntmps:=17,results:=[.t 4],mode:=.pure,body :=
 (oQ [oW 4 (.move (oB false))]
 (oQ [oM 5 0,oW 6 (.call (oF 177) [.t 5]),oM 7 6,gM 8 1 7 true,gW 9 (.call (oF 177) [.t 8]) 7 true,gW 10 (.un .not (.t 9)) 7 true,oW 11 (.pick (.t 7) (.t 10) (oB false)),oM 12 11,gM 13 0 12 false,gM 14 1 12 false,gW 15 (.arith .lss (.t 13) (.t 14)) 12 false,oW 16 (.pick (.t 12) (oB true) (.t 15)),oM 4 16]
 .ret))}
theorem c207:aE Tryz.prog Tryz.f207 .pure=some CS:=by kernel_rfl
def XU:aN :=
 (.seq (.seq (.draw [oRM 29 9,oRM 30 10,oR 31 (.arith .leq (.t 29) (.t 30)),oRM 32 31,rM 33 0 32 true,rM 34 1 32 true,rW 35 (.indexAddr 1 (.t 33) (.t 34)) 32 true,rD 36 35 32 true,rM 37 0 32 true,rM 38 9 32 true,rW 39 (.indexAddr 1 (.t 37) (.t 38)) 32 true,rD 40 39 32 true,gW 41 (.call (oF 207) [.t 36,.t 40]) 32 true,⟨(some 42),.un .not (.t 41),(some (32,true)),.read,1,false⟩,nK 43 (.pick (.t 32) (.t 42) (oB false)) .read 1])
 (.cond (.t 43) .skip (.exit 2)))
 (.block 3 (.region [oM 44 9,oW 45 (.arith .add (.t 44) (oI 1)),oM 9 45])))
def XT:aN :=
 (.seq (.seq (.draw [oRM 46 9,oRM 47 10,oR 48 (.arith .leq (.t 46) (.t 47)),oRM 49 48,rM 50 0 49 true,rM 51 1 49 true,rW 52 (.indexAddr 1 (.t 50) (.t 51)) 49 true,rD 53 52 49 true,rM 54 0 49 true,rM 55 10 49 true,rW 56 (.indexAddr 1 (.t 54) (.t 55)) 49 true,rD 57 56 49 true,gW 58 (.call (oF 207) [.t 53,.t 57]) 49 true,nK 59 (.pick (.t 49) (.t 58) (oB false)) .read 1])
 (.cond (.t 59) .skip (.exit 4)))
 (.block 5 (.region [oM 60 10,oW 61 (.arith .sub (.t 60) (oI 1)),oM 10 61])))
def XX:aN :=
 (.seq (oQ [oM 62 9,oM 63 10,oW 64 (.arith .gtr (.t 62) (.t 63))]
 (.cond (.t 64) (.exit 0) .skip))
 (.seq (.draw [oRM 69 0,oRM 70 10,oR 71 (.indexAddr 1 (.t 69) (.t 70)),oRD 72 71,oRM 73 0,oRM 74 9,oR 75 (.indexAddr 1 (.t 73) (.t 74)),oRD 76 75,oRM 65 0,oRM 66 9,oR 77 (.indexAddr 1 (.t 65) (.t 66)),oS 1 77 72,oRM 67 0,oRM 68 10,nK 78 (.indexAddr 1 (.t 67) (.t 68)) .read 1,⟨none,.store 1 (.t 78) (.t 76),none,.write,1,false⟩])
 (oQ [oM 79 9,oW 80 (.arith .add (.t 79) (oI 1)),oM 9 80]
 (.region [oM 81 10,oW 82 (.arith .sub (.t 81) (oI 1)),oM 10 82]))))
def XW:aN :=
 (.seq (.block 4 (.loop XT))
 XX)
def XS:aN :=
 (.block 1 (.seq (.block 2 (.loop XU))
 XW))
def XV:aN :=
 (oQ [oM 83 9,oM 8 83]
 .ret)
def t208:aQ:={ntmps:=84,results:=[.t 8],mode:=.full,body :=
 (oQ [oW 8 (.move (oI 0))]
 (.seq (.draw [oRM 15 0,oRM 16 3,oR 17 (.indexAddr 1 (.t 15) (.t 16)),oRD 18 17,oRM 19 0,oRM 20 1,oR 21 (.indexAddr 1 (.t 19) (.t 20)),oRD 22 21,oRM 11 0,oRM 12 1,oR 23 (.indexAddr 1 (.t 11) (.t 12)),oS 1 23 18,oRM 13 0,oRM 14 3,nK 24 (.indexAddr 1 (.t 13) (.t 14)) .read 1,⟨none,.store 1 (.t 24) (.t 22),none,.write,1,false⟩])
 (oQ [oM 25 1,oW 26 (.arith .add (.t 25) (oI 1)),oM 27 2,oW 28 (.arith .sub (.t 27) (oI 1)),oM 9 26,oM 10 28]
 (.seq (.block 0 (.loop XS))
 XV))))}
theorem c208:aE Tryz.prog Tryz.f208 .full=some t208:=by kernel_rfl
def XM:aN :=
 (.seq (.seq (.draw [oRM 30 10,oRM 31 11,oR 32 (.arith .leq (.t 30) (.t 31)),oRM 33 32,rM 34 0 33 true,rM 35 10 33 true,rW 36 (.indexAddr 1 (.t 34) (.t 35)) 33 true,rD 37 36 33 true,rM 38 0 33 true,rM 39 1 33 true,rW 40 (.indexAddr 1 (.t 38) (.t 39)) 33 true,rD 41 40 33 true,gW 42 (.call (oF 207) [.t 37,.t 41]) 33 true,nK 43 (.pick (.t 33) (.t 42) (oB false)) .read 1])
 (.cond (.t 43) .skip (.exit 0)))
 (.block 1 (.region [oM 44 10,oW 45 (.arith .add (.t 44) (oI 1)),oM 10 45])))
def XL:aN :=
 (.seq (.seq (.draw [oRM 46 10,oRM 47 11,oR 48 (.arith .leq (.t 46) (.t 47)),oRM 49 48,rM 50 0 49 true,rM 51 11 49 true,rW 52 (.indexAddr 1 (.t 50) (.t 51)) 49 true,rD 53 52 49 true,rM 54 0 49 true,rM 55 1 49 true,rW 56 (.indexAddr 1 (.t 54) (.t 55)) 49 true,rD 57 56 49 true,gW 58 (.call (oF 207) [.t 53,.t 57]) 49 true,⟨(some 59),.un .not (.t 58),(some (49,true)),.read,1,false⟩,nK 60 (.pick (.t 49) (.t 59) (oB false)) .read 1])
 (.cond (.t 60) .skip (.exit 2)))
 (.block 3 (.region [oM 61 11,oW 62 (.arith .sub (.t 61) (oI 1)),oM 11 62])))
def XK:aN :=
 (.seq (.seq (.draw [oRM 99 10,oRM 100 11,oR 101 (.arith .leq (.t 99) (.t 100)),oRM 102 101,rM 103 0 102 true,rM 104 10 102 true,rW 105 (.indexAddr 1 (.t 103) (.t 104)) 102 true,rD 106 105 102 true,rM 107 0 102 true,rM 108 1 102 true,rW 109 (.indexAddr 1 (.t 107) (.t 108)) 102 true,rD 110 109 102 true,gW 111 (.call (oF 207) [.t 106,.t 110]) 102 true,nK 112 (.pick (.t 102) (.t 111) (oB false)) .read 1])
 (.cond (.t 112) .skip (.exit 6)))
 (.block 7 (.region [oM 113 10,oW 114 (.arith .add (.t 113) (oI 1)),oM 10 114])))
def XJ:aN :=
 (.seq (.seq (.draw [oRM 115 10,oRM 116 11,oR 117 (.arith .leq (.t 115) (.t 116)),oRM 118 117,rM 119 0 118 true,rM 120 11 118 true,rW 121 (.indexAddr 1 (.t 119) (.t 120)) 118 true,rD 122 121 118 true,rM 123 0 118 true,rM 124 1 118 true,rW 125 (.indexAddr 1 (.t 123) (.t 124)) 118 true,rD 126 125 118 true,gW 127 (.call (oF 207) [.t 122,.t 126]) 118 true,⟨(some 128),.un .not (.t 127),(some (118,true)),.read,1,false⟩,nK 129 (.pick (.t 118) (.t 128) (oB false)) .read 1])
 (.cond (.t 129) .skip (.exit 8)))
 (.block 9 (.region [oM 130 11,oW 131 (.arith .sub (.t 130) (oI 1)),oM 11 131])))
def XR:aN :=
 (.seq (oQ [oM 132 10,oM 133 11,oW 134 (.arith .gtr (.t 132) (.t 133))]
 (.cond (.t 134) (.exit 4) .skip))
 (.seq (.draw [oRM 139 0,oRM 140 11,oR 141 (.indexAddr 1 (.t 139) (.t 140)),oRD 142 141,oRM 143 0,oRM 144 10,oR 145 (.indexAddr 1 (.t 143) (.t 144)),oRD 146 145,oRM 135 0,oRM 136 10,oR 147 (.indexAddr 1 (.t 135) (.t 136)),oS 1 147 142,oRM 137 0,oRM 138 11,nK 148 (.indexAddr 1 (.t 137) (.t 138)) .read 1,⟨none,.store 1 (.t 148) (.t 146),none,.write,1,false⟩])
 (oQ [oM 149 10,oW 150 (.arith .add (.t 149) (oI 1)),oM 10 150]
 (.region [oM 151 11,oW 152 (.arith .sub (.t 151) (oI 1)),oM 11 152]))))
def XQ:aN :=
 (.seq (.block 8 (.loop XJ))
 XR)
def XI:aN :=
 (.block 5 (.seq (.block 6 (.loop XK))
 XQ))
def XP:aN :=
 (.seq (.draw [oRM 157 0,oRM 158 1,oR 159 (.indexAddr 1 (.t 157) (.t 158)),oRD 160 159,oRM 161 0,oRM 162 11,oR 163 (.indexAddr 1 (.t 161) (.t 162)),oRD 164 163,oRM 153 0,oRM 154 11,oR 165 (.indexAddr 1 (.t 153) (.t 154)),oS 1 165 160,oRM 155 0,oRM 156 1,nK 166 (.indexAddr 1 (.t 155) (.t 156)) .read 1,⟨none,.store 1 (.t 166) (.t 164),none,.write,1,false⟩])
 (oQ [oM 167 11,oM 8 167,oW 9 (.move (oB false))]
 .ret))
def XO:aN :=
 (.seq (oQ [oM 63 10,oM 64 11,oW 65 (.arith .gtr (.t 63) (.t 64))]
 (.cond (.t 65) (.seq (.draw [oRM 70 0,oRM 71 1,oR 72 (.indexAddr 1 (.t 70) (.t 71)),oRD 73 72,oRM 74 0,oRM 75 11,oR 76 (.indexAddr 1 (.t 74) (.t 75)),oRD 77 76,oRM 66 0,oRM 67 11,oR 78 (.indexAddr 1 (.t 66) (.t 67)),oS 1 78 73,oRM 68 0,oRM 69 1,nK 79 (.indexAddr 1 (.t 68) (.t 69)) .read 1,⟨none,.store 1 (.t 79) (.t 77),none,.write,1,false⟩])
 (oQ [oM 80 11,oM 8 80,oW 9 (.move (oB true))]
 .ret)) .skip))
 (.seq (.draw [oRM 85 0,oRM 86 11,oR 87 (.indexAddr 1 (.t 85) (.t 86)),oRD 88 87,oRM 89 0,oRM 90 10,oR 91 (.indexAddr 1 (.t 89) (.t 90)),oRD 92 91,oRM 81 0,oRM 82 10,oR 93 (.indexAddr 1 (.t 81) (.t 82)),oS 1 93 88,oRM 83 0,oRM 84 11,nK 94 (.indexAddr 1 (.t 83) (.t 84)) .read 1,⟨none,.store 1 (.t 94) (.t 92),none,.write,1,false⟩])
 (oQ [oM 95 10,oW 96 (.arith .add (.t 95) (oI 1)),oM 10 96]
 (oQ [oM 97 11,oW 98 (.arith .sub (.t 97) (oI 1)),oM 11 98]
 (.seq (.block 4 (.loop XI))
 XP)))))
def XN:aN :=
 (.seq (.block 2 (.loop XL))
 XO)
def t209:aQ:={ntmps:=168,results:=[.t 8,.t 9],mode:=.full,body :=
 (oQ [oW 8 (.move (oI 0)),oW 9 (.move (oB false))]
 (.seq (.draw [oRM 16 0,oRM 17 3,oR 18 (.indexAddr 1 (.t 16) (.t 17)),oRD 19 18,oRM 20 0,oRM 21 1,oR 22 (.indexAddr 1 (.t 20) (.t 21)),oRD 23 22,oRM 12 0,oRM 13 1,oR 24 (.indexAddr 1 (.t 12) (.t 13)),oS 1 24 19,oRM 14 0,oRM 15 3,nK 25 (.indexAddr 1 (.t 14) (.t 15)) .read 1,⟨none,.store 1 (.t 25) (.t 23),none,.write,1,false⟩])
 (oQ [oM 26 1,oW 27 (.arith .add (.t 26) (oI 1)),oM 28 2,oW 29 (.arith .sub (.t 28) (oI 1)),oM 10 27,oM 11 29]
 (.seq (.block 0 (.loop XM))
 XN))))}
theorem c209:aE Tryz.prog Tryz.f209 .full=some t209:=by kernel_rfl
def t210:aQ:={ntmps:=19,results:=[.t 2],mode:=.pure,body :=
 (oQ [oW 2 (.move (oI 0))]
 (.seq (oQ [oM 3 0,oW 4 (.arith .geq (.t 3) (.c (.int .u32 65536)))]
 (.cond (.t 4) (oQ [oM 5 0,oW 6 (.arith .shr (.t 5) (.c (.int .u64 16))),oM 0 6]
 (.region [oW 2 (.move (oI 16))])) .skip))
 (.seq (oQ [oM 7 0,oW 8 (.arith .geq (.t 7) (.c (.int .u32 256)))]
 (.cond (.t 8) (oQ [oM 9 0,oW 10 (.arith .shr (.t 9) (.c (.int .u64 8))),oM 0 10]
 (.region [oM 11 2,oW 12 (.arith .add (.t 11) (oI 8)),oM 2 12])) .skip))
 (oQ [oM 13 2,oM 14 0,oW 15 (.conv .u8 (.t 14)),oW 16 (.indexStr (.c (.str [0,1,2,2,3,3,3,3,4,4,4,4,4,4,4,4,5,5,5,5,5,5,5,5,5,5,5,5,5,5,5,5,6,6,6,6,6,6,6,6,6,6,6,6,6,6,6,6,6,6,6,6,6,6,6,6,6,6,6,6,6,6,6,6,7,7,7,7,7,7,7,7,7,7,7,7,7,7,7,7,7,7,7,7,7,7,7,7,7,7,7,7,7,7,7,7,7,7,7,7,7,7,7,7,7,7,7,7,7,7,7,7,7,7,7,7,7,7,7,7,7,7,7,7,7,7,7,7,8,8,8,8,8,8,8,8,8,8,8,8,8,8,8,8,8,8,8,8,8,8,8,8,8,8,8,8,8,8,8,8,8,8,8,8,8,8,8,8,8,8,8,8,8,8,8,8,8,8,8,8,8,8,8,8,8,8,8,8,8,8,8,8,8,8,8,8,8,8,8,8,8,8,8,8,8,8,8,8,8,8,8,8,8,8,8,8,8,8,8,8,8,8,8,8,8,8,8,8,8,8,8,8,8,8,8,8,8,8,8,8,8,8,8,8,8,8,8,8,8,8,8,8,8,8,8,8])) (.t 15)),oW 17 (.conv .i64 (.t 16)),oW 18 (.arith .add (.t 13) (.t 17)),oM 2 18]
 .ret))))}
theorem c210:aE Tryz.prog Tryz.f210 .pure=some t210:=by kernel_rfl
def t211:aQ:={ntmps:=25,results:=[.t 2],mode:=.pure,body :=
 (oQ [oW 2 (.move (oI 0))]
 (.seq (oQ [oM 3 0,oW 4 (.arith .geq (.t 3) (.c (.int .u64 4294967296)))]
 (.cond (.t 4) (oQ [oM 5 0,oW 6 (.arith .shr (.t 5) (.c (.int .u64 32))),oM 0 6]
 (.region [oW 2 (.move (oI 32))])) .skip))
 (.seq (oQ [oM 7 0,oW 8 (.arith .geq (.t 7) (.c (.int .u64 65536)))]
 (.cond (.t 8) (oQ [oM 9 0,oW 10 (.arith .shr (.t 9) (.c (.int .u64 16))),oM 0 10]
 (.region [oM 11 2,oW 12 (.arith .add (.t 11) (oI 16)),oM 2 12])) .skip))
 (.seq (oQ [oM 13 0,oW 14 (.arith .geq (.t 13) (.c (.int .u64 256)))]
 (.cond (.t 14) (oQ [oM 15 0,oW 16 (.arith .shr (.t 15) (.c (.int .u64 8))),oM 0 16]
 (.region [oM 17 2,oW 18 (.arith .add (.t 17) (oI 8)),oM 2 18])) .skip))
 (oQ [oM 19 2,oM 20 0,oW 21 (.conv .u8 (.t 20)),oW 22 (.indexStr (.c (.str [0,1,2,2,3,3,3,3,4,4,4,4,4,4,4,4,5,5,5,5,5,5,5,5,5,5,5,5,5,5,5,5,6,6,6,6,6,6,6,6,6,6,6,6,6,6,6,6,6,6,6,6,6,6,6,6,6,6,6,6,6,6,6,6,7,7,7,7,7,7,7,7,7,7,7,7,7,7,7,7,7,7,7,7,7,7,7,7,7,7,7,7,7,7,7,7,7,7,7,7,7,7,7,7,7,7,7,7,7,7,7,7,7,7,7,7,7,7,7,7,7,7,7,7,7,7,7,7,8,8,8,8,8,8,8,8,8,8,8,8,8,8,8,8,8,8,8,8,8,8,8,8,8,8,8,8,8,8,8,8,8,8,8,8,8,8,8,8,8,8,8,8,8,8,8,8,8,8,8,8,8,8,8,8,8,8,8,8,8,8,8,8,8,8,8,8,8,8,8,8,8,8,8,8,8,8,8,8,8,8,8,8,8,8,8,8,8,8,8,8,8,8,8,8,8,8,8,8,8,8,8,8,8,8,8,8,8,8,8,8,8,8,8,8,8,8,8,8,8,8,8,8,8,8,8,8])) (.t 21)),oW 23 (.conv .i64 (.t 22)),oW 24 (.arith .add (.t 19) (.t 23)),oM 2 24]
 .ret)))))}
theorem c211:aE Tryz.prog Tryz.f211 .pure=some t211:=by kernel_rfl
def G6:aQ:={ntmps:=18,results:=[.t 4],mode:=.pure,body :=
 (oQ [oW 4 (.move (oB false))]
 (oQ [oM 5 0,oW 6 (.len 0 (.t 5)),oM 7 1,oW 8 (.len 0 (.t 7)),oW 9 (.arith .geq (.t 6) (.t 8)),oM 10 9,gM 11 0 10 true,gM 12 1 10 true,gW 13 (.len 0 (.t 12)) 10 true,gW 14 (.sliceStr (.t 11) none (some (.t 13))) 10 true,gM 15 1 10 true,gW 16 (.arith .eql (.t 14) (.t 15)) 10 true,oW 17 (.pick (.t 10) (.t 16) (oB false)),oM 4 17]
 .ret))}
theorem c212:aE Tryz.prog Tryz.f212 .pure=some G6:=by kernel_rfl
def CR:aQ:={ntmps:=8,results:=[.t 4],mode:=.pure,body :=
 (oQ [oW 4 (.move (oB false))]
 (oQ [oM 5 0,oM 6 1,oW 7 (.call (oF 230) [.t 5,.t 6]),oM 4 7]
 .ret))}
theorem c213:aE Tryz.prog Tryz.f213 .pure=some CR:=by kernel_rfl
def CQ:aQ:={ntmps:=5,results:=[(.cell 2 (some 3))],mode:=.pure,body :=
 (oQ [oW 2 (.alloc 106 3 (.agg [.bool false,.int .i64 0,.str []]))]
 (oQ [oM 3 0,oW 4 (.build [.bool false,.int .i64 0,.str []] [(0,1,oB true),(2,1,.t 3)]),oS 3 2 4]
 .ret))}
theorem c214:aE Tryz.prog Tryz.f214 .pure=some CQ:=by kernel_rfl
def Gx:aQ:={ntmps:=50,results:=[.t 4],mode:=.pure,body :=
 (oQ [oW 2 (.box 96 5 (.t 0)),oW 3 (.box 96 5 (.t 1)),oW 4 (.move (oB false))]
 (.seq (.block 0 (oQ [oA 6 1 2,oD 7 6,oW 8 (.arith .eql (.t 7) (oI 1)),oM 5 8]
 (.cond (.t 5) (oQ [oA 9 1 3,oD 10 9,oW 11 (.arith .eql (.t 10) (oI 1)),oM 12 11,gA 13 2 2 12 true,gD 14 13 12 true,gA 15 2 3 12 true,gD 16 15 12 true,gW 17 (.arith .geq (.t 14) (.t 16)) 12 true,oW 18 (.pick (.t 12) (.t 17) (oB false)),oM 19 18,gA 20 3 2 19 true,gD 21 20 19 true,gA 22 3 3 19 true,gD 23 22 19 true,gW 24 (.arith .leq (.t 21) (.t 23)) 19 true,oW 25 (.pick (.t 19) (.t 24) (oB false)),oM 4 25]
 .ret) (oQ [oA 27 1 3,oD 28 27,oW 29 (.arith .eql (.t 28) (oI 2)),oM 26 29]
 (.cond (.t 26) (oQ [oA 30 1 2,oD 31 30,oW 32 (.arith .eql (.t 31) (oI 2)),oM 33 32,gA 34 4 2 33 true,gD 35 34 33 true,gA 36 4 3 33 true,gD 37 36 33 true,gW 38 (.arith .eql (.t 35) (.t 37)) 33 true,oW 39 (.pick (.t 33) (.t 38) (oB false)),oM 4 39]
 .ret) .skip)))))
 (oQ [oA 40 1 3,oD 41 40,oW 42 (.arith .eql (.t 41) (oI 3)),oM 43 42,gA 44 4 2 43 true,gD 45 44 43 true,gA 46 4 3 43 true,gD 47 46 43 true,gW 48 (.call (oF 212) [.t 45,.t 47]) 43 true,oW 49 (.pick (.t 43) (.t 48) (oB false)),oM 4 49]
 .ret)))}
theorem c215:aE Tryz.prog Tryz.f215 .pure=some Gx:=by kernel_rfl
def t216:aQ:={ntmps:=14,results:=[],mode:=.full,body :=
 (oQ [oM 4 0,oM 5 1,oW 6 (.sliceSl 4 (.t 4) none (some (.t 5))),oW 7 (.call (oF 231) [.t 6])]
 (oQ [oM 8 0,oM 9 1,oW 10 (.sliceSl 4 (.t 8) (some (.t 9)) none),oW 11 (.call (oF 231) [.t 10])]
 (.region [oM 12 0,oW 13 (.call (oF 231) [.t 12])])))}
theorem c216:aE Tryz.prog Tryz.f216 .full=some t216:=by kernel_rfl
def t217:aQ:={ntmps:=14,results:=[],mode:=.full,body :=
 (oQ [oM 4 0,oM 5 1,oW 6 (.sliceSl 2 (.t 4) none (some (.t 5))),oW 7 (.call (oF 232) [.t 6])]
 (oQ [oM 8 0,oM 9 1,oW 10 (.sliceSl 2 (.t 8) (some (.t 9)) none),oW 11 (.call (oF 232) [.t 10])]
 (.region [oM 12 0,oW 13 (.call (oF 232) [.t 12])])))}
theorem c217:aE Tryz.prog Tryz.f217 .full=some t217:=by kernel_rfl
def G5:aN :=
 (.seq (oQ [oM 15 9,oM 16 10,oW 17 (.arith .lss (.t 15) (.t 16))]
 (.cond (.t 17) .skip (.exit 0)))
 (.block 1 (oQ [oM 18 9,oM 19 10,oW 20 (.arith .add (.t 18) (.t 19)),oW 21 (.conv .u64 (.t 20)),oW 22 (.arith .shr (.t 21) (.c (.int .u64 1))),oW 23 (.conv .i64 (.t 22)),oM 11 23]
 (oQ [oM 24 2,oM 25 0,oM 26 11,oW 27 (.indexAddr 5 (.t 25) (.t 26)),oL 28 5 27,oM 29 1,oW 30 (.call (.t 24) [.t 28,.t 29]),oW 31 (.arith .lss (.t 30) (oI 0))]
 (.cond (.t 31) (.region [oM 32 11,oW 33 (.arith .add (.t 32) (oI 1)),oM 9 33]) (.region [oM 34 11,oM 10 34]))))))
def Qc:aN :=
 (oQ [oM 35 9,oM 36 9,oM 37 8,oW 38 (.arith .lss (.t 36) (.t 37)),oM 39 38,gM 40 2 39 true,gM 41 0 39 true,gM 42 9 39 true,gW 43 (.indexAddr 5 (.t 41) (.t 42)) 39 true,gL 44 5 43 39 true,gM 45 1 39 true,gW 46 (.call (.t 40) [.t 44,.t 45]) 39 true,gW 47 (.arith .eql (.t 46) (oI 0)) 39 true,oW 48 (.pick (.t 39) (.t 47) (oB false)),oM 6 35,oM 7 48]
 .ret)
def CP:aQ:={ntmps:=49,results:=[.t 6,.t 7],mode:=.pure,body :=
 (oQ [oW 6 (.move (oI 0)),oW 7 (.move (oB false))]
 (oQ [oM 12 0,oW 13 (.len 1 (.t 12)),oM 8 13]
 (oQ [oM 14 8,oW 9 (.move (oI 0)),oM 10 14]
 (.seq (.block 0 (.loop G5))
 Qc))))}
theorem c218:aE Tryz.prog Tryz.f218 .pure=some CP:=by kernel_rfl
def CO:aQ:={ntmps:=9,results:=[.t 4],mode:=.pure,body :=
 (oQ [oW 2 (.box 96 5 (.t 0)),oW 4 (.move (oI 0))]
 (oQ [oA 5 0 2,oD 6 5,oM 7 1,oW 8 (.call (oF 220) [.t 6,.t 7]),oM 4 8]
 .ret))}
theorem c219:aE Tryz.prog Tryz.f219 .pure=some CO:=by kernel_rfl
def CN:aQ:={ntmps:=8,results:=[.t 4],mode:=.pure,body :=
 (oQ [oW 4 (.move (oI 0))]
 (oQ [oM 5 0,oM 6 1,oW 7 (.call (oF 233) [.t 5,.t 6]),oM 4 7]
 .ret))}
theorem c220:aE Tryz.prog Tryz.f220 .pure=some CN:=by kernel_rfl
def zA:aQ:={ntmps:=69,results:=[(.cell 4 (some 5)),.t 5],mode:=.pure,body :=
 (oQ [oW 2 (.box 96 5 (.t 0)),oW 3 (.box 96 5 (.t 1)),oW 4 (.alloc 96 5 (.agg [.str [],.int .i64 0,.int .i64 0,.int .i64 0,.str []])),oW 5 (.move (oB false))]
 (oQ [oW 7 (.build [.str [],.int .i64 0,.int .i64 0,.int .i64 0,.str []] []),oW 6 (.alloc 96 5 (.agg [.str [],.int .i64 0,.int .i64 0,.int .i64 0,.str []])),oS 5 6 7]
 (.seq (oQ [oA 8 1 2,oD 9 8,oA 10 1 3,oD 11 10,oW 12 (.arith .gtr (.t 9) (.t 11))]
 (.cond (.t 12) (.region [oL 13 5 3,oL 14 5 2,oS 5 2 13,oS 5 3 14]) .skip))
 (.seq (oQ [oA 15 1 2,oD 16 15]
 (.block 0 (.seq (.block 3 (.seq (.block 2 (.seq (.block 1 (.seq (.seq (oQ [oW 18 (.arith .eql (.t 16) (oI 1)),oM 17 18]
 (.cond (.t 17) (.exit 1) .skip))
 (.seq (oQ [oW 20 (.arith .eql (.t 16) (oI 3)),oM 19 20]
 (.cond (.t 19) (.exit 2) .skip))
 (oQ [oW 22 (.arith .eql (.t 16) (oI 2)),oM 21 22]
 (.cond (.t 21) (.exit 3) .skip))))
 (.exit 0)))
 (.seq (.seq (oQ [oA 23 1 3,oD 24 23,oW 25 (.arith .neq (.t 24) (oI 1)),oM 26 25,gA 27 2 2 26 false,gD 28 27 26 false,gA 29 2 3 26 false,gD 30 29 26 false,gW 31 (.minmax true (.t 28) (.t 30)) 26 false,gA 32 3 2 26 false,gD 33 32 26 false,gA 34 3 3 26 false,gD 35 34 26 false,gW 36 (.minmax false (.t 33) (.t 35)) 26 false,gW 37 (.arith .gtr (.t 31) (.t 36)) 26 false,oW 38 (.pick (.t 26) (oB true) (.t 37))]
 (.cond (.t 38) (oQ [oL 39 5 6,oS 5 4 39,oW 5 (.move (oB false))]
 .ret) .skip))
 (.seq (.draw [oRA 40 2 2,⟨(some 41),.load none (.t 40),none,.read,0,true⟩,oRA 42 2 3,⟨(some 43),.load none (.t 42),none,.read,0,true⟩,oRA 45 3 2,⟨(some 46),.load none (.t 45),none,.read,0,true⟩,oRA 47 3 3,oRD 48 47,oR 44 (.minmax true (.t 41) (.t 43)),oRA 50 2 2,⟨none,.store 1 (.t 50) (.t 44),none,.create,0,false⟩,oR 49 (.minmax false (.t 46) (.t 48)),nK 51 (.fieldAddr 3 (.t 2)) .read 1,⟨none,.store 1 (.t 51) (.t 49),none,.write,1,false⟩])
 (oQ [oL 52 5 2,oS 5 4 52,oW 5 (.move (oB true))]
 .ret)))
 (.exit 0))))
 (oQ [oA 53 4 2,oD 54 53,oW 55 (.len 0 (.t 54)),oA 56 4 3,oD 57 56,oW 58 (.len 0 (.t 57)),oW 59 (.arith .lss (.t 55) (.t 58))]
 (.cond (.t 59) (.region [oL 60 5 3,oL 61 5 2,oS 5 2 60,oS 5 3 61]) .skip))))
 (.seq (.seq (.draw [oRL 62 5 3,oRA 63 4 2,oRD 64 63,nK 65 (.call (oF 214) [.t 64]) .create 0,nK 66 (.call (oF 200) [.t 62,.t 65]) .write 1])
 (.cond (.t 66) (oQ [oL 67 5 2,oS 5 4 67,oW 5 (.move (oB true))]
 .ret) .skip))
 (.exit 0)))))
 (oQ [oL 68 5 6,oS 5 4 68,oW 5 (.move (oB false))]
 .ret)))))}
theorem c221:aE Tryz.prog Tryz.f221 .pure=some zA:=by kernel_rfl
def Ad:aQ:={ntmps:=95,results:=[.t 6],mode:=.split,body :=
 (oQ [oW 6 (.move (.c .nsl))]
 (oQ [oM 10 0,oM 11 1,oW 12 (.sliceSl 5 (.t 10) (some (.t 11)) none)]
 (oQ [oM 13 2,oW 14 (.len 1 (.t 13)),oM 7 14]
 (.seq (oQ [oM 15 7,oW 16 (.arith .eql (.t 15) (oI 0))]
 (.cond (.t 16) (oQ [oM 17 0,oM 6 17]
 .ret) .skip))
 (oQ [oM 18 0,oW 19 (.len 1 (.t 18)),oM 8 19]
 (.seq (oQ [oM 20 1,oM 21 8,oW 22 (.arith .eql (.t 20) (.t 21))]
 (.cond (.t 22) (oQ [oM 23 0,oM 24 2,oW 25 (.append 96 5 56 (.t 23) (.t 24)),oM 6 25]
 .ret) .skip))
 (.seq (oQ [oM 26 8,oM 27 7,oW 28 (.arith .add (.t 26) (.t 27)),oM 29 0,oW 30 (.cap (.t 29)),oW 31 (.arith .gtr (.t 28) (.t 30))]
 (.cond (.t 31) (oQ [oM 32 0,oM 33 1,oW 34 (.sliceSl 5 (.t 32) none (some (.t 33))),oM 35 8,oM 36 7,oW 37 (.arith .add (.t 35) (.t 36)),oM 38 1,oW 39 (.arith .sub (.t 37) (.t 38)),oW 40 (.appendZ 96 5 56 (.agg [.str [],.int .i64 0,.int .i64 0,.int .i64 0,.str []]) (.t 34) (.t 39)),oM 9 40]
 (oQ [oM 41 9,oM 42 1,oW 43 (.sliceSl 5 (.t 41) (some (.t 42)) none),oM 44 2,oW 45 (.copy 5 (.t 43) (.t 44))]
 (.seq (.draw [oRM 46 9,oRM 47 1,oRM 48 7,oR 49 (.arith .add (.t 47) (.t 48)),oR 50 (.sliceSl 5 (.t 46) (some (.t 49)) none),oRM 51 0,oRM 52 1,oR 53 (.sliceSl 5 (.t 51) (some (.t 52)) none),oW 54 (.copy 5 (.t 50) (.t 53))])
 (oQ [oM 55 9,oM 6 55]
 .ret)))) .skip))
 (oQ [oM 56 0,oM 57 8,oM 58 7,oW 59 (.arith .add (.t 57) (.t 58)),oW 60 (.sliceSl 5 (.t 56) none (some (.t 59))),oM 0 60]
 (.seq (oQ [oM 61 2,oM 62 0,oM 63 1,oM 64 7,oW 65 (.arith .add (.t 63) (.t 64)),oW 66 (.sliceSl 5 (.t 62) (some (.t 65)) none),oW 67 (.call (oF 234) [.t 61,.t 66]),oW 68 (.un .not (.t 67))]
 (.cond (.t 68) (.seq (.draw [oRM 69 0,oRM 70 1,oRM 71 7,oR 72 (.arith .add (.t 70) (.t 71)),oR 73 (.sliceSl 5 (.t 69) (some (.t 72)) none),oRM 74 0,oRM 75 1,oR 76 (.sliceSl 5 (.t 74) (some (.t 75)) none),oW 77 (.copy 5 (.t 73) (.t 76))])
 (oQ [oM 78 0,oM 79 1,oW 80 (.sliceSl 5 (.t 78) (some (.t 79)) none),oM 81 2,oW 82 (.copy 5 (.t 80) (.t 81))]
 (oQ [oM 83 0,oM 6 83]
 .ret))) .skip))
 (oQ [oM 84 0,oM 85 8,oW 86 (.sliceSl 5 (.t 84) (some (.t 85)) none),oM 87 2,oW 88 (.copy 5 (.t 86) (.t 87))]
 (oQ [oM 89 0,oM 90 1,oW 91 (.sliceSl 5 (.t 89) (some (.t 90)) none),oM 92 7,oW 93 (.call (oF 235) [.t 91,.t 92])]
 (oQ [oM 94 0,oM 6 94]
 .ret))))))))))))}
theorem c222:aE Tryz.prog Tryz.f222 .split=some Ad:=by kernel_rfl
def CM:aQ:={ntmps:=5,results:=[(.cell 2 (some 3))],mode:=.pure,body :=
 (oQ [oW 2 (.alloc 106 3 (.agg [.bool false,.int .i64 0,.str []]))]
 (oQ [oM 3 0,oW 4 (.build [.bool false,.int .i64 0,.str []] [(1,1,.t 3)]),oS 3 2 4]
 .ret))}
theorem c223:aE Tryz.prog Tryz.f223 .pure=some CM:=by kernel_rfl
def t224:aQ:={ntmps:=14,results:=[],mode:=.full,body :=
 (oQ [oM 4 0,oM 5 1,oW 6 (.sliceSl 7 (.t 4) none (some (.t 5))),oW 7 (.call (oF 236) [.t 6])]
 (oQ [oM 8 0,oM 9 1,oW 10 (.sliceSl 7 (.t 8) (some (.t 9)) none),oW 11 (.call (oF 236) [.t 10])]
 (.region [oM 12 0,oW 13 (.call (oF 236) [.t 12])])))}
theorem c224:aE Tryz.prog Tryz.f224 .full=some t224:=by kernel_rfl
def XH:aN :=
 (.block 1 (oQ [oM 11 8,oW 12 (.arith .mul (oI 2) (.t 11)),oW 13 (.arith .add (.t 12) (oI 1)),oM 9 13]
 (.seq (oQ [oM 14 9,oM 15 2,oW 16 (.arith .geq (.t 14) (.t 15))]
 (.cond (.t 16) (.exit 0) .skip))
 (.seq (.seq (.draw [oRM 17 9,oR 18 (.arith .add (.t 17) (oI 1)),oRM 19 2,oR 20 (.arith .lss (.t 18) (.t 19)),oRM 21 20,rM 22 0 21 true,rM 23 3 21 true,rM 24 9 21 true,rW 25 (.arith .add (.t 23) (.t 24)) 21 true,rW 26 (.indexAddr 1 (.t 22) (.t 25)) 21 true,rD 27 26 21 true,rM 28 0 21 true,rM 29 3 21 true,rM 30 9 21 true,rW 31 (.arith .add (.t 29) (.t 30)) 21 true,rW 32 (.arith .add (.t 31) (oI 1)) 21 true,rW 33 (.indexAddr 1 (.t 28) (.t 32)) 21 true,rD 34 33 21 true,gW 35 (.call (oF 207) [.t 27,.t 34]) 21 true,nK 36 (.pick (.t 21) (.t 35) (oB false)) .read 1])
 (.cond (.t 36) (.region [oM 37 9,oW 38 (.arith .add (.t 37) (oI 1)),oM 9 38]) .skip))
 (.seq (.seq (.draw [oRM 39 0,oRM 40 3,oRM 41 8,oR 42 (.arith .add (.t 40) (.t 41)),oR 43 (.indexAddr 1 (.t 39) (.t 42)),oRD 44 43,oRM 45 0,oRM 46 3,oRM 47 9,oR 48 (.arith .add (.t 46) (.t 47)),oR 49 (.indexAddr 1 (.t 45) (.t 48)),oRD 50 49,oW 51 (.call (oF 207) [.t 44,.t 50]),nK 52 (.un .not (.t 51)) .read 1])
 (.cond (.t 52) .ret .skip))
 (.seq (.draw [oRM 61 0,oRM 62 3,oRM 63 9,oR 64 (.arith .add (.t 62) (.t 63)),oR 65 (.indexAddr 1 (.t 61) (.t 64)),oRD 66 65,oRM 67 0,oRM 68 3,oRM 69 8,oR 70 (.arith .add (.t 68) (.t 69)),oR 71 (.indexAddr 1 (.t 67) (.t 70)),oRD 72 71,oRM 53 0,oRM 54 3,oRM 55 8,oR 56 (.arith .add (.t 54) (.t 55)),oR 73 (.indexAddr 1 (.t 53) (.t 56)),oS 1 73 66,oRM 57 0,oRM 58 3,oRM 59 9,oR 60 (.arith .add (.t 58) (.t 59)),nK 74 (.indexAddr 1 (.t 57) (.t 60)) .read 1,⟨none,.store 1 (.t 74) (.t 72),none,.write,1,false⟩])
 (.region [oM 75 9,oM 8 75])))))))
def t225:aQ:={ntmps:=76,results:=[],mode:=.full,body :=
 (oQ [oM 10 1,oM 8 10]
 (.block 0 (.loop XH)))}
theorem c225:aE Tryz.prog Tryz.f225 .full=some t225:=by kernel_rfl
def t226:aQ:={ntmps:=7,results:=[.t 2],mode:=.pure,body :=
 (oQ [oW 2 (.move (.c (.int .u64 0)))]
 (oQ [oM 3 0,oW 4 (.conv .u64 (.t 3)),oW 5 (.call (oF 165) [.t 4]),oW 6 (.arith .shl (.c (.int .u64 1)) (.t 5)),oM 2 6]
 .ret))}
theorem c226:aE Tryz.prog Tryz.f226 .pure=some t226:=by kernel_rfl
def t227:aQ:={ntmps:=33,results:=[.t 2],mode:=.full,body :=
 (oQ [oW 2 (.move (.c (.int .u64 0)))]
 (.seq (.draw [oRM 3 0,oR 4 (.nilCheck (.t 3)),oRD 5 4,oRM 6 0,oR 7 (.nilCheck (.t 6)),oRD 8 7,oR 9 (.arith .shl (.t 8) (.c (.int .u64 13))),oR 10 (.arith .xor (.t 5) (.t 9)),oR 11 (.nilCheck (.t 3)),oS 1 11 10])
 (.seq (.draw [oRM 12 0,oR 13 (.nilCheck (.t 12)),oRD 14 13,oRM 15 0,oR 16 (.nilCheck (.t 15)),oRD 17 16,oR 18 (.arith .shr (.t 17) (.c (.int .u64 7))),oR 19 (.arith .xor (.t 14) (.t 18)),oR 20 (.nilCheck (.t 12)),oS 1 20 19])
 (.seq (.draw [oRM 21 0,oR 22 (.nilCheck (.t 21)),oRD 23 22,oRM 24 0,oR 25 (.nilCheck (.t 24)),oRD 26 25,oR 27 (.arith .shl (.t 26) (.c (.int .u64 17))),oR 28 (.arith .xor (.t 23) (.t 27)),oR 29 (.nilCheck (.t 21)),oS 1 29 28])
 (oQ [oM 30 0,oW 31 (.nilCheck (.t 30)),oD 32 31,oM 2 32]
 .ret)))))}
theorem c227:aE Tryz.prog Tryz.f227 .full=some t227:=by kernel_rfl
def t228:aQ:={ntmps:=15,results:=[.t 6],mode:=.full,body :=
 (oQ [oW 6 (.move (oI 0))]
 (oQ [oM 7 0,oM 8 1,oW 9 (.arith .sub (.t 8) (oI 1)),oM 10 1,oM 11 1,oW 12 (.arith .add (.t 11) (oI 1)),oM 13 2,oW 14 (.call (oF 229) [.t 7,.t 9,.t 10,.t 12,.t 13]),oM 6 14]
 .ret))}
theorem c228:aE Tryz.prog Tryz.f228 .full=some t228:=by kernel_rfl
def t229:aQ:={ntmps:=36,results:=[.t 10],mode:=.full,body :=
 (oQ [oW 10 (.move (oI 0))]
 (oQ [oM 12 0,oM 13 1,oM 14 2,oM 15 4,oW 16 (.call (oF 237) [.t 12,.t 13,.t 14,.t 15]),oM 11 16,oX 17 11 0,oX 18 11 1,oM 1 17,oM 2 18]
 (oQ [oM 20 0,oM 21 2,oM 22 3,oM 23 4,oW 24 (.call (oF 237) [.t 20,.t 21,.t 22,.t 23]),oM 19 24,oX 25 19 0,oX 26 19 1,oM 2 25,oM 3 26]
 (oQ [oM 28 0,oM 29 1,oM 30 2,oM 31 4,oW 32 (.call (oF 237) [.t 28,.t 29,.t 30,.t 31]),oM 27 32,oX 33 27 0,oX 34 27 1,oM 1 33,oM 2 34]
 (oQ [oM 35 2,oM 10 35]
 .ret)))))}
theorem c229:aE Tryz.prog Tryz.f229 .full=some t229:=by kernel_rfl
def G4:aQ:={ntmps:=18,results:=[.t 4],mode:=.pure,body :=
 (oQ [oW 4 (.move (oB false))]
 (oQ [oM 5 0,oW 6 (.len 0 (.t 5)),oM 7 1,oW 8 (.len 0 (.t 7)),oW 9 (.arith .geq (.t 6) (.t 8)),oM 10 9,gM 11 0 10 true,gM 12 1 10 true,gW 13 (.len 0 (.t 12)) 10 true,gW 14 (.sliceStr (.t 11) none (some (.t 13))) 10 true,gM 15 1 10 true,gW 16 (.arith .eql (.t 14) (.t 15)) 10 true,oW 17 (.pick (.t 10) (.t 16) (oB false)),oM 4 17]
 .ret))}
theorem c230:aE Tryz.prog Tryz.f230 .pure=some G4:=by kernel_rfl
end Go.Dm.Tc
