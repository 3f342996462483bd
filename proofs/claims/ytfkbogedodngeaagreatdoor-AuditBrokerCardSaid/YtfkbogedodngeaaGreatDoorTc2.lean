/- A part of the proof. -/
import Derived.Test.YtfkbogedodngeaaGreatDoorTc0
import Derived.Test.YtfkbogedodngeaaGreatDoorMm4
import Derived.Test.YtfkbogedodngeaaGreatDoorRows
import Derived.KernelRfl
namespace Go.Dm.Tc
open Go.Proofs
def AX:aS:={ntmps:=22,results:=[.t 3],mode:=.pure,body :=
 (oQ [oW 2 (.box 68 4 (.t 0)),oW 3 (.move (oB false))]
 (oQ [oL 4 6 1,oA 5 0 2,oL 6 2 5,oW 7 (.call (oF 157) [.t 4,.t 6]),oW 8 (.un .not (.t 7)),oM 9 8,gL 10 6 1 9 false,gA 11 3 2 9 false,gD 12 11 9 false,gW 13 (.call (oF 158) [.t 10,.t 12]) 9 false,gW 14 (.un .not (.t 13)) 9 false,oW 15 (.pick (.t 9) (oB true) (.t 14)),oM 16 15,gA 17 2 2 16 false,gD 18 17 16 false,gW 19 (.call (oF 125) [.t 18]) 16 false,gW 20 (.un .not (.t 19)) 16 false,oW 21 (.pick (.t 16) (oB true) (.t 20)),oM 3 21]
 .ret))}
theorem c156:aH Tryz.prog Tryz.f156 .pure=some AX:=by kernel_rfl
def AW:aS:={ntmps:=14,results:=[.t 4],mode:=.pure,body :=
 (oQ [oW 2 (.box 37 6 (.t 0)),oW 3 (.box 45 2 (.t 1)),oW 4 (.move (oB false))]
 (oQ [oL 8 6 2,oL 9 2 3,oW 10 (.call (oF 220) [.t 8,.t 9]),oM 7 10,oX 11 7 0,oX 12 7 1,oM 5 11,oM 6 12]
 (oQ [oM 13 6,oM 4 13]
 .ret)))}
theorem c157:aH Tryz.prog Tryz.f157 .pure=some AW:=by kernel_rfl
def D0:aS:={ntmps:=13,results:=[.t 4],mode:=.pure,body :=
 (oQ [oW 2 (.box 37 6 (.t 0)),oW 4 (.move (oB false))]
 (oQ [oM 5 1,oW 6 (.arith .eql (.t 5) (oI (-1))),oM 7 6,gA 8 1 2 7 false,gD 9 8 7 false,gM 10 1 7 false,gW 11 (.call (oF 221) [.t 9,.t 10]) 7 false,oW 12 (.pick (.t 7) (oB true) (.t 11)),oM 4 12]
 .ret))}
theorem c158:aH Tryz.prog Tryz.f158 .pure=some D0:=by kernel_rfl
def AV:aS:={ntmps:=9,results:=[.t 4],mode:=.pure,body :=
 (oQ [oW 4 (.move (oB false))]
 (oQ [oM 5 0,oM 6 1,oW 7 (.call (oF 222) [.t 5,.t 6]),oW 8 (.arith .geq (.t 7) (oI 0)),oM 4 8]
 .ret))}
theorem c159:aH Tryz.prog Tryz.f159 .pure=some AV:=by kernel_rfl
def AU:aS:={ntmps:=8,results:=[.t 3],mode:=.pure,body :=
 (oQ [oW 2 (.box 70 7 (.t 0)),oW 3 (.move (oB false))]
 (oQ [oL 4 6 1,oL 5 7 2,oW 6 (.call (oF 161) [.t 4,.t 5]),oW 7 (.un .not (.t 6)),oM 3 7]
 .ret))}
theorem c160:aH Tryz.prog Tryz.f160 .pure=some AU:=by kernel_rfl
def Cu:aS:={ntmps:=48,results:=[.t 4],mode:=.pure,body :=
 (oQ [oW 2 (.box 37 6 (.t 0)),oW 3 (.box 70 7 (.t 1)),oW 4 (.move (oB false))]
 (oQ [oL 9 6 2,oA 10 0 3,oL 11 2 10,oW 12 (.call (oF 30) [.t 9,.t 11]),oM 8 12,oX 13 8 0,oX 14 8 1,oW 5 (.alloc 68 4 (.agg [.int .i64 0,.int .i64 0,.nsl,.int .i64 0])),oS 4 5 13,oM 6 14]
 (oQ [oA 15 3 5,oD 16 15,oW 17 (.arith .eql (.t 16) (oI (-1))),oM 7 17]
 (oQ [oM 18 6,oM 19 18,gL 20 6 2 19 true,gA 21 5 3 19 true,gD 22 21 19 true,gW 23 (.call (oF 158) [.t 20,.t 22]) 19 true,oW 24 (.pick (.t 19) (.t 23) (oB false)),oM 25 24,gA 26 5 3 25 true,gD 27 26 25 true,gA 28 3 5 25 true,gD 29 28 25 true,gW 30 (.arith .neq (.t 27) (.t 29)) 25 true,gM 31 30 25 true,gM 32 7 31 false,gW 33 (.pick (.t 31) (oB true) (.t 32)) 25 true,oW 34 (.pick (.t 25) (.t 33) (oB false)),oM 35 34,gA 36 6 3 35 true,gD 37 36 35 true,gM 38 37 35 true,gM 39 7 38 true,gW 40 (.pick (.t 38) (.t 39) (oB false)) 35 true,gW 41 (.un .not (.t 40)) 35 true,oW 42 (.pick (.t 35) (.t 41) (oB false)),oM 43 42,gA 44 4 3 43 true,gD 45 44 43 true,gW 46 (.call (oF 125) [.t 45]) 43 true,oW 47 (.pick (.t 43) (.t 46) (oB false)),oM 4 47]
 .ret))))}
theorem c161:aH Tryz.prog Tryz.f161 .pure=some Cu:=by kernel_rfl
def AT:aS:={ntmps:=9,results:=[.t 4],mode:=.pure,body :=
 (oQ [oW 4 (.move (oB false))]
 (oQ [oM 5 0,oM 6 1,oW 7 (.call (oF 223) [.t 5,.t 6]),oW 8 (.arith .geq (.t 7) (oI 0)),oM 4 8]
 .ret))}
theorem c162:aH Tryz.prog Tryz.f162 .pure=some AT:=by kernel_rfl
def AS:aS:={ntmps:=7,results:=[.t 2],mode:=.pure,body :=
 (oQ [oW 1 (.box 134 3 (.t 0)),oW 2 (.move (oB false))]
 (oQ [oA 3 2 1,oD 4 3,oW 5 (.call (oF 125) [.t 4]),oW 6 (.un .not (.t 5)),oM 2 6]
 .ret))}
theorem c163:aH Tryz.prog Tryz.f163 .pure=some AS:=by kernel_rfl
def AR:aS:={ntmps:=12,results:=[.t 6],mode:=.pure,body :=
 (oQ [oW 3 (.box 37 6 (.t 0)),oW 4 (.box 45 2 (.t 1)),oW 5 (.box 46 1 (.t 2)),oW 6 (.move (oB false))]
 (oQ [oL 7 6 3,oL 8 2 4,oW 9 (.call (oF 224) [.t 7,.t 8]),oW 10 (.makeFunc 225 [.t 5]),oW 11 (.call (oF 159) [.t 9,.t 10]),oM 6 11]
 .ret))}
theorem c164:aH Tryz.prog Tryz.f164 .pure=some AR:=by kernel_rfl
def ZU:aS:={ntmps:=4,results:=[.t 0],mode:=.full,body :=
 (oQ [oW 0 (.move (.c .nilp))]
 (oQ [oW 1 (.makeMap),oW 2 (.build [.nmap,.nsl] [(0,1,.t 1)]),oW 3 (.box 329 2 (.t 2)),oM 0 3]
 .ret))}
theorem c165:aH Tryz.prog Tryz.f165 .full=some ZU:=by kernel_rfl
def ZT:aS:={ntmps:=8,results:=[.t 2],mode:=.full,body :=
 (oQ [oW 2 (.move (oB false))]
 (oQ [oM 3 0,oW 4 (.call (oF 167) [.t 3]),oW 5 (.call (oF 27) [.t 4]),oW 6 (.len 1 (.t 5)),oW 7 (.arith .eql (.t 6) (oI 0)),oM 2 7]
 .ret))}
theorem c166:aH Tryz.prog Tryz.f166 .full=some ZT:=by kernel_rfl
def ZS:aS:={ntmps:=8,results:=[.t 2],mode:=.full,body :=
 (oQ [oW 2 (.move (.c .nilp))]
 (oQ [oM 3 0,oW 4 (.nilCheck (.t 3)),oA 5 0 4,oD 6 5,oW 7 (.call (oF 39) [.t 6]),oM 2 7]
 .ret))}
theorem c167:aH Tryz.prog Tryz.f167 .full=some ZS:=by kernel_rfl
def UL:aM :=
 (oQ [oW 19 (.arith .lss (.t 18) (.t 17))]
 (.seq (.cond (.t 19) .skip (.exit 0))
 (.seq (.block 1 (oQ [oW 20 (.indexAddr 4 (.t 16) (.t 18)),oL 21 4 20,oW 7 (.alloc 68 4 (.agg [.int .i64 0,.int .i64 0,.nsl,.int .i64 0])),oS 4 7 21]
 (oQ [oM 23 1,oA 24 0 7,oL 25 2 24,oW 26 (.call (oF 227) [.t 23,.t 25]),oM 22 26,oX 27 22 0,oX 28 22 1,oW 8 (.alloc 68 4 (.agg [.int .i64 0,.int .i64 0,.nsl,.int .i64 0])),oS 4 8 27,oM 9 28]
 (oQ [oM 29 9,oW 30 (.un .not (.t 29))]
 (.cond (.t 30) (oQ [oW 31 (.makeIface 57 (oI 4)),oM 4 31]
 .ret) .skip)))))
 (.region [oW 32 (.arith .add (.t 18) (oI 1)),oM 18 32]))))
def UM:aM :=
 (oQ [oW 4 (.move (.c .nili))]
 .ret)
def ZR:aS:={ntmps:=33,results:=[.t 4],mode:=.full,body :=
 (oQ [oW 2 (.box 37 6 (.t 0)),oW 4 (.move (.c .nili))]
 (.seq (oQ [oL 10 6 2,oW 11 (.call (oF 20) [.t 10]),oM 5 11]
 (oQ [oM 12 5,oW 13 (.eqn 4 true (.t 12) (.c .nili))]
 (.cond (.t 13) (oQ [oM 14 5,oM 4 14]
 .ret) .skip)))
 (.seq (oQ [oA 15 2 2,oD 16 15,oW 17 (.len 1 (.t 16)),oW 18 (.move (oI 0))]
 (.block 0 (.loop UL)))
 UM)))}
theorem c168:aH Tryz.prog Tryz.f168 .full=some ZR:=by kernel_rfl
def ZQ:aS:={ntmps:=8,results:=[.t 2],mode:=.full,body :=
 (oQ [oW 2 (.move (.c .nsl))]
 (oQ [oM 3 0,oW 4 (.nilCheck (.t 3)),oA 5 1 4,oD 6 5,oW 7 (.call (oF 89) [.t 6]),oM 2 7]
 .ret))}
theorem c169:aH Tryz.prog Tryz.f169 .full=some ZQ:=by kernel_rfl
def ZN:aS:={ntmps:=14,results:=[(.cell 2 (some 2))],mode:=.pure,body :=
 (oQ [oW 1 (.box 86 2 (.t 0)),oW 2 (.alloc 86 2 (.agg [.int .i64 0,.int .i64 0]))]
 (oQ [oW 3 (.indexArr 2 1 (.t 1) (oI 0)),oD 4 3,oW 5 (.indexArr 2 1 (.t 1) (oI 1)),oD 6 5,oW 7 (.minmax false (.t 4) (.t 6)),oW 8 (.indexArr 2 1 (.t 1) (oI 0)),oD 9 8,oW 10 (.indexArr 2 1 (.t 1) (oI 1)),oD 11 10,oW 12 (.minmax true (.t 9) (.t 11)),oW 13 (.build [.int .i64 0,.int .i64 0] [(0,1,.t 7),(1,1,.t 12)]),oS 2 2 13]
 .ret))}
theorem c171:aH Tryz.prog Tryz.f171 .pure=some ZN:=by kernel_rfl
def UI:aM :=
 (oQ [oW 28 (.arith .lss (.t 27) (.t 26))]
 (.seq (.cond (.t 28) .skip (.exit 2))
 (.seq (.block 3 (oQ [oW 29 (.indexAddr 1 (.t 25) (.t 27)),oD 30 29,oM 8 30]
 (oQ [oM 32 5,oM 33 8,oW 34 (.lookup (.prim 1) (.int .i64 0) true (.t 32) (.t 33)),oM 31 34,oX 35 31 0,oX 36 31 1,oM 9 35,oM 10 36]
 (oQ [oM 37 10,oW 38 (.un .not (.t 37))]
 (.cond (.t 38) (oQ [oM 39 5,oM 40 8,oM 41 5,oM 42 6,oW 43 (.indexAddr 1 (.t 42) (oI 0)),oD 44 43,oW 45 (.lookup (.prim 1) (.int .i64 0) false (.t 41) (.t 44)),oW 46 (.arith .add (.t 45) (oI 1)),oZ (.mapUpdate (.prim 1) (.t 39) (.t 40) (.t 46))]
 (.region [oM 47 6,oM 48 8,oW 49 (.buildSlice 3 1 (.int .i64 0) 1 [(0,.t 48)]),oW 50 (.append 3 1 8 (.t 47) (.t 49)),oM 6 50])) .skip)))))
 (.region [oW 51 (.arith .add (.t 27) (oI 1)),oM 27 51]))))
def UK:aM :=
 (.region [oM 19 6,oW 20 (.sliceSl 1 (.t 19) (some (oI 1)) none),oM 6 20])
def UH:aM :=
 (.seq (oQ [oM 16 6,oW 17 (.len 1 (.t 16)),oW 18 (.arith .gtr (.t 17) (oI 0))]
 (.cond (.t 18) .skip (.exit 0)))
 (.seq (.block 1 (.seq (.draw [oRL 21 2 2,oRM 22 6,oR 23 (.indexAddr 1 (.t 22) (oI 0)),oRD 24 23,oW 25 (.call (oF 76) [.t 21,.t 24]),nK 26 (.len 1 (.t 25)) .read 1,oR 27 (.move (oI 0))])
 (.block 2 (.loop UI))))
 UK))
def UJ:aM :=
 (oQ [oM 52 5,oM 4 52]
 .ret)
def ZM:aS:={ntmps:=53,results:=[.t 4],mode:=.full,body :=
 (oQ [oW 2 (.box 76 2 (.t 0)),oW 4 (.move (.c .nmap))]
 (oQ [oW 11 (.makeMap),oM 12 1,oZ (.mapUpdate (.prim 1) (.t 11) (.t 12) (oI 0)),oM 13 11,oM 5 13]
 (.seq (oQ [oM 14 1,oW 15 (.buildSlice 3 1 (.int .i64 0) 1 [(0,.t 14)]),oM 6 15]
 (.block 0 (.loop UH)))
 UJ)))}
theorem c172:aH Tryz.prog Tryz.f172 .full=some ZM:=by kernel_rfl
def AQ:aS:={ntmps:=2,results:=[.t 0],mode:=.pure,body :=
 (oQ [oW 0 (.move (.c .nsl))]
 (oQ [oW 1 (.buildSlice 9 1 (.str []) 7 [(0,(.c (.str []))),(1,(.c (.str [120]))),(2,(.c (.str [120,121]))),(3,(.c (.str [120,121,122]))),(4,(.c (.str [120,122]))),(5,(.c (.str [121]))),(6,(.c (.str [121,121])))]),oM 0 1]
 .ret))}
theorem c179:aH Tryz.prog Tryz.f179 .pure=some AQ:=by kernel_rfl
def C9:aM :=
 (.seq (oQ [oM 15 9,oM 16 10,oW 17 (.arith .lss (.t 15) (.t 16))]
 (.cond (.t 17) .skip (.exit 0)))
 (.block 1 (oQ [oM 18 9,oM 19 10,oW 20 (.arith .add (.t 18) (.t 19)),oW 21 (.conv .u64 (.t 20)),oW 22 (.arith .shr (.t 21) (.c (.int .u64 1))),oW 23 (.conv .i64 (.t 22)),oM 11 23]
 (.seq (.draw [oRM 25 0,oRM 26 11,oR 27 (.indexAddr 4 (.t 25) (.t 26)),oRL 28 4 27,oRL 29 2 4,oRM 24 2,oW 30 (.call (.t 24) [.t 28,.t 29]),nK 31 (.arith .lss (.t 30) (oI 0)) .read 1])
 (.cond (.t 31) (.region [oM 32 11,oW 33 (.arith .add (.t 32) (oI 1)),oM 9 33]) (.region [oM 34 11,oM 10 34]))))))
def Pn:aM :=
 (.seq (.draw [oRM 36 9,oRM 37 8,oR 38 (.arith .lss (.t 36) (.t 37)),oRM 39 38,rM 41 0 39 true,rM 42 9 39 true,rW 43 (.indexAddr 4 (.t 41) (.t 42)) 39 true,rL 44 4 43 39 true,rL 45 2 4 39 true,rM 40 2 39 true,gW 46 (.call (.t 40) [.t 44,.t 45]) 39 true,oRM 35 9,⟨(some 47),.arith .eql (.t 46) (oI 0),(some (39,true)),.read,1,false⟩,nK 48 (.pick (.t 39) (.t 47) (oB false)) .read 1,nK 6 (.move (.t 35)) .read 1,nK 7 (.move (.t 48)) .read 1])
 .ret)
def AP:aS:={ntmps:=49,results:=[.t 6,.t 7],mode:=.pure,body :=
 (oQ [oW 4 (.box 45 2 (.t 1)),oW 6 (.move (oI 0)),oW 7 (.move (oB false))]
 (oQ [oM 12 0,oW 13 (.len 1 (.t 12)),oM 8 13]
 (oQ [oM 14 8,oW 9 (.move (oI 0)),oM 10 14]
 (.seq (.block 0 (.loop C9))
 Pn))))}
theorem c183:aH Tryz.prog Tryz.f183 .pure=some AP:=by kernel_rfl
def AO:aS:={ntmps:=9,results:=[.t 4],mode:=.pure,body :=
 (oQ [oW 2 (.box 68 4 (.t 0)),oW 3 (.box 45 2 (.t 1)),oW 4 (.move (oI 0))]
 (oQ [oA 5 0 2,oL 6 2 5,oL 7 2 3,oW 8 (.call (oF 154) [.t 6,.t 7]),oM 4 8]
 .ret))}
theorem c184:aH Tryz.prog Tryz.f184 .pure=some AO:=by kernel_rfl
def ZK:aS:={ntmps:=13,results:=[.t 4],mode:=.pure,body :=
 (oQ [oW 2 (.box 76 2 (.t 0)),oW 4 (.move (oB false))]
 (oQ [oM 5 1,oW 6 (.arith .geq (.t 5) (oI 0)),oM 7 6,gM 8 1 7 true,gA 9 0 2 7 true,gD 10 9 7 true,gW 11 (.arith .lss (.t 8) (.t 10)) 7 true,oW 12 (.pick (.t 7) (.t 11) (oB false)),oM 4 12]
 .ret))}
theorem c190:aH Tryz.prog Tryz.f190 .pure=some ZK:=by kernel_rfl
def Ct:aS:={ntmps:=6,results:=[.t 2],mode:=.pure,body :=
 (oQ [oW 2 (.move (oB false))]
 (oQ [oM 3 0,oM 4 0,oW 5 (.arith .neq (.t 3) (.t 4)),oM 2 5]
 .ret))}
theorem YA:aH Tryz.prog Tryz.f193 .pure=some Ct:=by kernel_rfl
def Pm:aM :=
 (.seq (.seq (.draw [oRM 16 7,oRM 17 4,oR 18 (.len 1 (.t 17)),oR 19 (.arith .lss (.t 16) (.t 18)),oRM 20 19,rM 21 4 20 true,rM 22 7 20 true,rW 23 (.indexAddr 5 (.t 21) (.t 22)) 20 true,rA 24 0 23 20 true,rD 25 24 20 true,rA 26 0 6 20 true,rD 27 26 20 true,rW 28 (.arith .lss (.t 25) (.t 27)) 20 true,oR 29 (.pick (.t 20) (.t 28) (oB false))])
 (.cond (.t 29) .skip (.exit 2)))
 (.block 3 (.region [oM 30 7,oW 31 (.arith .add (.t 30) (oI 1)),oM 7 31])))
def vY:aM :=
 (.seq (.seq (.draw [oRM 32 7,oRM 33 4,oR 34 (.len 1 (.t 33)),oR 35 (.arith .lss (.t 32) (.t 34)),oRM 36 35,rM 37 4 36 true,rM 38 7 36 true,rW 39 (.indexAddr 5 (.t 37) (.t 38)) 36 true,rA 40 0 39 36 true,rD 41 40 36 true,rA 42 0 6 36 true,rD 43 42 36 true,rW 44 (.arith .eql (.t 41) (.t 43)) 36 true,oR 45 (.pick (.t 36) (.t 44) (oB false))])
 (.cond (.t 45) (.seq (.draw [oRM 47 4,oRM 48 7,oR 49 (.indexAddr 5 (.t 47) (.t 48)),oRL 50 5 49,oRL 51 5 6,oW 52 (.call (oF 257) [.t 50,.t 51]),nK 46 (.move (.t 52)) .read 1,nK 53 (.extract (.t 46) 0) .read 1,nK 8 (.alloc 94 5 (.agg [.str [],.int .i64 0,.int .i64 0,.int .i64 0,.str []])) .create 0,⟨none,.store 5 (.t 8) (.t 53),none,.write,2,false⟩,nK 54 (.extract (.t 46) 1) .read 1,nK 9 (.move (.t 54)) .read 3])
 (.seq (oQ [oM 55 9,oW 56 (.un .not (.t 55))]
 (.cond (.t 56) (oQ [oW 2 (.move (.c .nsl)),oW 3 (.move (oB false))]
 .ret) .skip))
 (oQ [oW 57 (.buildSlice 94 5 (.agg [.str [],.int .i64 0,.int .i64 0,.int .i64 0,.str []]) 0 []),oM 58 4,oW 59 (.append 94 5 56 (.t 57) (.t 58)),oM 4 59]
 (oQ [oM 60 4,oM 61 7,oL 62 5 8,oW 63 (.indexAddr 5 (.t 60) (.t 61)),oS 5 63 62]
 (.exit 1))))) .skip))
 (.draw [oRM 65 4,oRM 66 7,oR 67 (.sliceSl 5 (.t 65) none (some (.t 66))),nK 64 (.buildSlice 94 5 (.agg [.str [],.int .i64 0,.int .i64 0,.int .i64 0,.str []]) 0 []) .create 0,nK 68 (.append 94 5 56 (.t 64) (.t 67)) .create 0,oRL 69 5 6,nK 70 (.buildSlice 94 5 (.agg [.str [],.int .i64 0,.int .i64 0,.int .i64 0,.str []]) 1 [(0,.t 69)]) .create 0,nK 71 (.append 94 5 56 (.t 68) (.t 70)) .create 0,oRM 72 4,oRM 73 7,oR 74 (.sliceSl 5 (.t 72) (some (.t 73)) none),nK 75 (.append 94 5 56 (.t 71) (.t 74)) .write 4,nK 4 (.move (.t 75)) .read 5]))
def Gz:aM :=
 (.region [oW 76 (.arith .add (.t 12) (oI 1)),oM 12 76])
def Pl:aM :=
 (oQ [oW 13 (.arith .lss (.t 12) (.t 11))]
 (.seq (.cond (.t 13) .skip (.exit 0))
 (.seq (.block 1 (oQ [oW 14 (.indexAddr 5 (.t 10) (.t 12)),oL 15 5 14,oW 6 (.alloc 94 5 (.agg [.str [],.int .i64 0,.int .i64 0,.int .i64 0,.str []])),oS 5 6 15]
 (oQ [oW 7 (.move (oI 0))]
 (.seq (.block 2 (.loop Pm))
 vY))))
 Gz)))
def C8:aM :=
 (oQ [oM 77 4,oM 2 77,oW 3 (.move (oB true))]
 .ret)
def AN:aS:={ntmps:=78,results:=[.t 2,.t 3],mode:=.pure,body :=
 (oQ [oW 2 (.move (.c .nsl)),oW 3 (.move (oB false))]
 (oQ [oW 4 (.move (.c .nsl))]
 (.seq (oQ [oM 10 0,oW 11 (.len 1 (.t 10)),oW 12 (.move (oI 0))]
 (.block 0 (.loop Pl)))
 C8)))}
theorem c195:aH Tryz.prog Tryz.f195 .pure=some AN:=by kernel_rfl
def Pk:aM :=
 (oQ [oW 11 (.arith .lss (.t 10) (.t 9))]
 (.seq (.cond (.t 11) .skip (.exit 0))
 (.seq (.block 1 (oQ [oM 12 10,oW 13 (.indexAddr 4 (.t 8) (.t 10)),oL 14 4 13,oW 6 (.alloc 68 4 (.agg [.int .i64 0,.int .i64 0,.nsl,.int .i64 0])),oM 5 12,oS 4 6 14]
 (oQ [oA 15 0 6,oL 16 2 15,oL 17 2 3,oW 18 (.eqa false [1,1] (.t 16) (.t 17))]
 (.cond (.t 18) (oQ [oM 19 5,oM 4 19]
 .ret) .skip))))
 (.region [oW 20 (.arith .add (.t 10) (oI 1)),oM 10 20]))))
def C7:aM :=
 (oQ [oW 4 (.move (oI (-1)))]
 .ret)
def Ud:aS:={ntmps:=21,results:=[.t 4],mode:=.pure,body :=
 (oQ [oW 2 (.box 37 6 (.t 0)),oW 3 (.box 45 2 (.t 1)),oW 4 (.move (oI 0))]
 (.seq (oQ [oA 7 2 2,oD 8 7,oW 9 (.len 1 (.t 8)),oW 10 (.move (oI 0))]
 (.block 0 (.loop Pk)))
 C7))}
theorem c196:aH Tryz.prog Tryz.f196 .pure=some Ud:=by kernel_rfl
def Gy:aM :=
 (oQ [oW 13 (.arith .lss (.t 12) (.t 11))]
 (.seq (.cond (.t 13) .skip (.exit 0))
 (.seq (.block 1 (oQ [oM 14 12,oW 15 (.indexAddr 7 (.t 10) (.t 12)),oL 16 7 15,oW 8 (.alloc 70 7 (.agg [.int .i64 0,.int .i64 0,.int .i64 0,.int .i64 0,.nsl,.int .i64 0,.bool false])),oM 7 14,oS 7 8 16]
 (oQ [oA 17 0 8,oL 18 2 17,oL 19 2 4,oW 20 (.eqa false [1,1] (.t 18) (.t 19)),oM 21 20,gA 22 2 8 21 true,gL 23 2 22 21 true,gL 24 2 5 21 true,gW 25 (.eqa false [1,1] (.t 23) (.t 24)) 21 true,oW 26 (.pick (.t 21) (.t 25) (oB false))]
 (.cond (.t 26) (oQ [oM 27 7,oM 6 27]
 .ret) .skip))))
 (.region [oW 28 (.arith .add (.t 12) (oI 1)),oM 12 28]))))
def Pj:aM :=
 (oQ [oW 6 (.move (oI (-1)))]
 .ret)
def AM:aS:={ntmps:=29,results:=[.t 6],mode:=.pure,body :=
 (oQ [oW 3 (.box 37 6 (.t 0)),oW 4 (.box 45 2 (.t 1)),oW 5 (.box 45 2 (.t 2)),oW 6 (.move (oI 0))]
 (.seq (oQ [oA 9 4 3,oD 10 9,oW 11 (.len 1 (.t 10)),oW 12 (.move (oI 0))]
 (.block 0 (.loop Gy)))
 Pj))}
theorem c197:aH Tryz.prog Tryz.f197 .pure=some AM:=by kernel_rfl
def Gx:aM :=
 (oQ [oW 13 (.arith .lss (.t 12) (.t 11))]
 (.seq (.cond (.t 13) .skip (.exit 0))
 (.seq (.block 1 (oQ [oW 14 (.indexAddr 7 (.t 10) (.t 12)),oL 15 7 14,oW 8 (.alloc 70 7 (.agg [.int .i64 0,.int .i64 0,.int .i64 0,.int .i64 0,.nsl,.int .i64 0,.bool false])),oS 7 8 15]
 (oQ [oA 16 0 8,oL 17 2 16,oL 18 2 4,oW 19 (.eqa false [1,1] (.t 17) (.t 18)),oM 20 19,gA 21 6 8 20 true,gD 22 21 20 true,oW 23 (.pick (.t 20) (.t 22) (oB false)),oM 24 23,gA 25 4 8 24 true,gD 26 25 24 true,gM 27 2 24 true,gW 28 (.call (oF 258) [.t 26,.t 27]) 24 true,oW 29 (.pick (.t 24) (.t 28) (oB false))]
 (.cond (.t 29) (oQ [oW 6 (.move (oB true))]
 .ret) .skip))))
 (.region [oW 30 (.arith .add (.t 12) (oI 1)),oM 12 30]))))
def Pi:aM :=
 (oQ [oW 6 (.move (oB false))]
 .ret)
def AL:aS:={ntmps:=31,results:=[.t 6],mode:=.pure,body :=
 (oQ [oW 3 (.box 37 6 (.t 0)),oW 4 (.box 45 2 (.t 1)),oW 6 (.move (oB false))]
 (.seq (oQ [oA 9 4 3,oD 10 9,oW 11 (.len 1 (.t 10)),oW 12 (.move (oI 0))]
 (.block 0 (.loop Gx)))
 Pi))}
theorem c198:aH Tryz.prog Tryz.f198 .pure=some AL:=by kernel_rfl
def Gw:aM :=
 (oQ [oW 59 (.arith .lss (.t 58) (.t 57))]
 (.seq (.cond (.t 59) .skip (.exit 0))
 (.seq (.block 1 (oQ [oM 60 58,oM 14 60]
 (oQ [oA 61 4 4,oD 62 61,oM 63 14,oW 64 (.indexAddr 7 (.t 62) (.t 63)),oL 65 7 64,oW 15 (.alloc 70 7 (.agg [.int .i64 0,.int .i64 0,.int .i64 0,.int .i64 0,.nsl,.int .i64 0,.bool false])),oS 7 15 65]
 (oQ [oA 66 0 15,oL 67 2 66,oL 68 2 5,oW 69 (.eqa false [1,1] (.t 67) (.t 68)),oM 70 69,gA 71 6 15 70 true,gD 72 71 70 true,gW 73 (.un .not (.t 72)) 70 true,oW 74 (.pick (.t 70) (.t 73) (oB false)),oM 75 74,gL 76 6 4 75 true,gL 77 2 5 75 true,gA 78 4 15 75 true,gD 79 78 75 true,gW 80 (.call (oF 198) [.t 76,.t 77,.t 79]) 75 true,gW 81 (.un .not (.t 80)) 75 true,oW 82 (.pick (.t 75) (.t 81) (oB false))]
 (.cond (.t 82) (oQ [oW 83 (.buildSlice 70 7 (.agg [.int .i64 0,.int .i64 0,.int .i64 0,.int .i64 0,.nsl,.int .i64 0,.bool false]) 0 []),oA 84 4 4,oD 85 84,oW 86 (.append 70 7 72 (.t 83) (.t 85)),oA 87 4 4,oS 1 87 86]
 (oQ [oA 88 4 4,oD 89 88,oM 90 14,oW 91 (.indexAddr 7 (.t 89) (.t 90)),oA 92 6 91,oZ (.store 1 (.t 92) (oB true))]
 (.region [oM 93 13,oA 94 4 4,oD 95 94,oM 96 14,oW 97 (.indexAddr 7 (.t 95) (.t 96)),oL 98 7 97,oW 99 (.buildSlice 70 7 (.agg [.int .i64 0,.int .i64 0,.int .i64 0,.int .i64 0,.nsl,.int .i64 0,.bool false]) 1 [(0,.t 98)]),oW 100 (.append 70 7 72 (.t 93) (.t 99)),oM 13 100]))) .skip)))))
 (.region [oW 101 (.arith .add (.t 58) (oI 1)),oM 58 101]))))
def Cs:aM :=
 (oQ [oL 102 6 4,oM 103 13,oS 6 8 102,oM 9 103,oW 10 (.move (oB true))]
 .ret)
def Ph:aS:={ntmps:=104,results:=[(.cell 8 (some 6)),.t 9,.t 10],mode:=.frz,body :=
 (oQ [oW 4 (.box 37 6 (.t 0)),oW 5 (.box 45 2 (.t 1)),oW 6 (.box 45 2 (.t 2)),oW 8 (.alloc 37 6 (.agg [.int .i64 0,.nsl,.nsl,.nsl,.nsl,.nsl])),oW 9 (.move (.c .nsl)),oW 10 (.move (oB false))]
 (oQ [oL 16 6 4,oL 17 2 5,oL 18 2 6,oW 19 (.call (oF 197) [.t 16,.t 17,.t 18]),oM 11 19]
 (.seq (oQ [oM 20 11,oW 21 (.arith .lss (.t 20) (oI 0)),oM 22 21,gA 23 4 4 22 false,gD 24 23 22 false,gM 25 11 22 false,gW 26 (.indexAddr 7 (.t 24) (.t 25)) 22 false,gA 27 5 26 22 false,gD 28 27 22 false,gM 29 3 22 false,gW 30 (.arith .neq (.t 28) (.t 29)) 22 false,oW 31 (.pick (.t 22) (oB true) (.t 30))]
 (.cond (.t 31) (oQ [oL 32 6 4,oS 6 8 32,oW 9 (.move (.c .nsl)),oW 10 (.move (oB false))]
 .ret) .skip))
 (oQ [oA 33 4 4,oD 34 33,oM 35 11,oW 36 (.indexAddr 7 (.t 34) (.t 35)),oA 37 6 36,oD 38 37,oM 12 38]
 (.seq (.draw [oRA 40 4 4,oRD 41 40,oRM 42 11,oR 43 (.sliceSl 7 (.t 41) none (some (.t 42))),nK 39 (.buildSlice 70 7 (.agg [.int .i64 0,.int .i64 0,.int .i64 0,.int .i64 0,.nsl,.int .i64 0,.bool false]) 0 []) .create 0,nK 44 (.append 70 7 72 (.t 39) (.t 43)) .create 0,oRA 45 4 4,oRD 46 45,oRM 47 11,oR 48 (.arith .add (.t 47) (oI 1)),oR 49 (.sliceSl 7 (.t 46) (some (.t 48)) none),nK 50 (.append 70 7 72 (.t 44) (.t 49)) .write 2,nK 51 (.fieldAddr 4 (.t 4)) .read 3,⟨none,.store 1 (.t 51) (.t 50),none,.write,3,false⟩])
 (.seq (oQ [oM 52 12,oW 53 (.un .not (.t 52))]
 (.cond (.t 53) (oQ [oL 54 6 4,oS 6 8 54,oW 9 (.move (.c .nsl)),oW 10 (.move (oB false))]
 .ret) .skip))
 (oQ [oW 13 (.move (.c .nsl))]
 (.seq (oQ [oA 55 4 4,oD 56 55,oW 57 (.len 1 (.t 56)),oW 58 (.move (oI 0))]
 (.block 0 (.loop Gw)))
 Cs))))))))}
theorem c199:aH Tryz.prog Tryz.f199 .frz=some Ph:=by kernel_rfl
def Pg:aM :=
 (oQ [oW 11 (.arith .lss (.t 10) (.t 9))]
 (.seq (.cond (.t 11) .skip (.exit 0))
 (.seq (.block 1 (oQ [oW 12 (.indexAddr 2 (.t 8) (.t 10)),oL 13 2 12,oW 6 (.alloc 45 2 (.agg [.int .i64 0,.int .i64 0])),oS 2 6 13]
 (oQ [oL 14 2 6,oL 15 2 3,oW 16 (.eqa false [1,1] (.t 14) (.t 15))]
 (.cond (.t 16) (oQ [oW 4 (.move (oB true))]
 .ret) .skip))))
 (.region [oW 17 (.arith .add (.t 10) (oI 1)),oM 10 17]))))
def C6:aM :=
 (oQ [oW 4 (.move (oB false))]
 .ret)
def AK:aS:={ntmps:=18,results:=[.t 4],mode:=.pure,body :=
 (oQ [oW 2 (.box 37 6 (.t 0)),oW 3 (.box 45 2 (.t 1)),oW 4 (.move (oB false))]
 (.seq (oQ [oA 7 3 2,oD 8 7,oW 9 (.len 1 (.t 8)),oW 10 (.move (oI 0))]
 (.block 0 (.loop Pg)))
 C6))}
theorem c200:aH Tryz.prog Tryz.f200 .pure=some AK:=by kernel_rfl
def Pe:aM :=
 (oQ [oW 45 (.arith .lss (.t 44) (.t 43))]
 (.seq (.cond (.t 45) .skip (.exit 0))
 (.seq (.block 1 (oQ [oW 46 (.indexAddr 7 (.t 42) (.t 44)),oL 47 7 46,oW 11 (.alloc 70 7 (.agg [.int .i64 0,.int .i64 0,.int .i64 0,.int .i64 0,.nsl,.int .i64 0,.bool false])),oS 7 11 47]
 (oQ [oA 48 0 11,oL 49 2 48,oL 50 2 4,oW 51 (.eqa true [1,1] (.t 49) (.t 50))]
 (.cond (.t 51) (.region [oM 52 9,oL 53 7 11,oW 54 (.buildSlice 70 7 (.agg [.int .i64 0,.int .i64 0,.int .i64 0,.int .i64 0,.nsl,.int .i64 0,.bool false]) 1 [(0,.t 53)]),oW 55 (.append 70 7 72 (.t 52) (.t 54)),oM 9 55]) .skip))))
 (.region [oW 56 (.arith .add (.t 44) (oI 1)),oM 44 56]))))
def Pf:aM :=
 (oQ [oM 57 9,oA 58 4 3,oS 1 58 57]
 (oQ [oL 59 6 3,oS 6 6 59,oW 7 (.move (oB true))]
 .ret))
def Kx:aS:={ntmps:=60,results:=[(.cell 6 (some 6)),.t 7],mode:=.frz,body :=
 (oQ [oW 3 (.box 37 6 (.t 0)),oW 4 (.box 45 2 (.t 1)),oW 6 (.alloc 37 6 (.agg [.int .i64 0,.nsl,.nsl,.nsl,.nsl,.nsl])),oW 7 (.move (oB false))]
 (oQ [oL 12 6 3,oL 13 2 4,oW 14 (.call (oF 196) [.t 12,.t 13]),oM 8 14]
 (.seq (oQ [oM 15 8,oW 16 (.arith .lss (.t 15) (oI 0)),oM 17 16,gA 18 2 3 17 false,gD 19 18 17 false,gM 20 8 17 false,gW 21 (.indexAddr 4 (.t 19) (.t 20)) 17 false,gA 22 3 21 17 false,gD 23 22 17 false,gM 24 2 17 false,gW 25 (.arith .neq (.t 23) (.t 24)) 17 false,oW 26 (.pick (.t 17) (oB true) (.t 25))]
 (.cond (.t 26) (oQ [oL 27 6 3,oS 6 6 27,oW 7 (.move (oB false))]
 .ret) .skip))
 (.seq (.draw [oRA 29 2 3,oRD 30 29,oRM 31 8,oR 32 (.sliceSl 4 (.t 30) none (some (.t 31))),nK 28 (.buildSlice 68 4 (.agg [.int .i64 0,.int .i64 0,.nsl,.int .i64 0]) 0 []) .create 0,nK 33 (.append 68 4 48 (.t 28) (.t 32)) .create 0,oRA 34 2 3,oRD 35 34,oRM 36 8,oR 37 (.arith .add (.t 36) (oI 1)),oR 38 (.sliceSl 4 (.t 35) (some (.t 37)) none),nK 39 (.append 68 4 48 (.t 33) (.t 38)) .write 2,nK 40 (.fieldAddr 2 (.t 3)) .read 3,⟨none,.store 1 (.t 40) (.t 39),none,.write,3,false⟩])
 (oQ [oW 9 (.move (.c .nsl))]
 (.seq (oQ [oA 41 4 3,oD 42 41,oW 43 (.len 1 (.t 42)),oW 44 (.move (oI 0))]
 (.block 0 (.loop Pe)))
 Pf))))))}
theorem c201:aH Tryz.prog Tryz.f201 .frz=some Kx:=by kernel_rfl
def UD:aM :=
 (oQ [oW 19 (.arith .lss (.t 18) (.t 17))]
 (.seq (.cond (.t 19) .skip (.exit 2))
 (.seq (.block 3 (oQ [oW 20 (.indexAddr 4 (.t 16) (.t 18)),oL 21 4 20,oW 9 (.alloc 187 4 (.agg [.str [],.bool false,.int .i64 0,.str []])),oS 4 9 21]
 (.region [oM 22 7,oM 23 22,gA 24 0 9 23 false,gD 25 24 23 false,gA 26 0 6 23 false,gD 27 26 23 false,gW 28 (.arith .eql (.t 25) (.t 27)) 23 false,gM 29 28 23 false,gL 30 5 6 29 true,gA 31 1 9 29 true,gL 32 3 31 29 true,gW 33 (.call (oF 259) [.t 30,.t 32]) 29 true,gW 34 (.pick (.t 29) (.t 33) (oB false)) 23 false,oW 35 (.pick (.t 23) (oB true) (.t 34)),oM 7 35])))
 (.region [oW 36 (.arith .add (.t 18) (oI 1)),oM 18 36]))))
def UG:aM :=
 (oQ [oM 37 7,oW 38 (.un .not (.t 37))]
 (.cond (.t 38) (oQ [oW 4 (.move (oB false))]
 .ret) .skip))
def UF:aM :=
 (.region [oW 39 (.arith .add (.t 12) (oI 1)),oM 12 39])
def UC:aM :=
 (oQ [oW 13 (.arith .lss (.t 12) (.t 11))]
 (.seq (.cond (.t 13) .skip (.exit 0))
 (.seq (.block 1 (oQ [oW 14 (.indexAddr 5 (.t 10) (.t 12)),oL 15 5 14,oW 6 (.alloc 94 5 (.agg [.str [],.int .i64 0,.int .i64 0,.int .i64 0,.str []])),oS 5 6 15]
 (oQ [oW 7 (.move (oB false))]
 (.seq (oQ [oM 16 1,oW 17 (.len 1 (.t 16)),oW 18 (.move (oI 0))]
 (.block 2 (.loop UD)))
 UG))))
 UF)))
def UE:aM :=
 (oQ [oW 4 (.move (oB true))]
 .ret)
def ZJ:aS:={ntmps:=40,results:=[.t 4],mode:=.pure,body :=
 (oQ [oW 4 (.move (oB false))]
 (.seq (oQ [oM 10 0,oW 11 (.len 1 (.t 10)),oW 12 (.move (oI 0))]
 (.block 0 (.loop UC)))
 UE))}
theorem c202:aH Tryz.prog Tryz.f202 .pure=some ZJ:=by kernel_rfl
def yH:aS:={ntmps:=43,results:=[.t 2],mode:=.pure,body :=
 (oQ [oW 1 (.box 94 5 (.t 0)),oW 2 (.move (oB false))]
 (.seq (oQ [oA 3 0 1,oD 4 3,oW 5 (.call (oF 204) [.t 4]),oW 6 (.un .not (.t 5))]
 (.cond (.t 6) (oQ [oW 2 (.move (oB false))]
 .ret) .skip))
 (.seq (oQ [oA 7 1 1,oD 8 7]
 (.block 0 (.seq (.block 3 (.seq (.block 2 (.seq (.block 1 (.seq (.seq (oQ [oW 10 (.arith .eql (.t 8) (oI 1)),oM 9 10]
 (.cond (.t 9) (.exit 1) .skip))
 (.seq (oQ [oW 12 (.arith .eql (.t 8) (oI 3)),oM 11 12]
 (.cond (.t 11) (.exit 2) .skip))
 (oQ [oW 14 (.arith .eql (.t 8) (oI 2)),oM 13 14]
 (.cond (.t 13) (.exit 3) .skip))))
 (.exit 0)))
 (.seq (oQ [oA 15 2 1,oD 16 15,oA 17 3 1,oD 18 17,oW 19 (.arith .leq (.t 16) (.t 18)),oM 20 19,gA 21 4 1 20 true,gD 22 21 20 true,gW 23 (.arith .eql (.t 22) (.c (.str []))) 20 true,oW 24 (.pick (.t 20) (.t 23) (oB false)),oM 2 24]
 .ret)
 (.exit 0))))
 (oQ [oA 25 4 1,oD 26 25,oW 27 (.len 0 (.t 26)),oW 28 (.arith .eql (.t 27) (oI 12))]
 (.cond (.t 28) (oQ [oW 2 (.move (oB false))]
 .ret) .skip))))
 (.seq (oQ [oA 29 2 1,oD 30 29,oW 31 (.arith .eql (.t 30) (oI 0)),oM 32 31,gA 33 3 1 32 true,gD 34 33 32 true,gW 35 (.arith .eql (.t 34) (oI 0)) 32 true,oW 36 (.pick (.t 32) (.t 35) (oB false)),oM 37 36,gA 38 4 1 37 true,gD 39 38 37 true,gW 40 (.len 0 (.t 39)) 37 true,gW 41 (.arith .leq (.t 40) (oI 12)) 37 true,oW 42 (.pick (.t 37) (.t 41) (oB false)),oM 2 42]
 .ret)
 (.exit 0)))))
 (oQ [oW 2 (.move (oB false))]
 .ret))))}
theorem c203:aH Tryz.prog Tryz.f203 .pure=some yH:=by kernel_rfl
def Pc:aM :=
 (oQ [oW 7 (.arith .lss (.t 6) (.t 5))]
 (.seq (.cond (.t 7) .skip (.exit 0))
 (.seq (.block 1 (oQ [oM 8 6,oM 3 8]
 (oQ [oM 9 0,oM 10 3,oW 11 (.indexStr (.t 9) (.t 10)),oW 12 (.arith .lss (.t 11) (.c (.int .u8 97))),oM 13 12,gM 14 0 13 false,gM 15 3 13 false,gW 16 (.indexStr (.t 14) (.t 15)) 13 false,gW 17 (.arith .gtr (.t 16) (.c (.int .u8 122))) 13 false,oW 18 (.pick (.t 13) (oB true) (.t 17))]
 (.cond (.t 18) (oQ [oW 2 (.move (oB false))]
 .ret) .skip))))
 (.region [oW 19 (.arith .add (.t 6) (oI 1)),oM 6 19]))))
def Pd:aM :=
 (oQ [oM 20 0,oW 21 (.arith .neq (.t 20) (.c (.str []))),oM 22 21,gM 23 0 22 true,gW 24 (.len 0 (.t 23)) 22 true,gW 25 (.arith .leq (.t 24) (oI 12)) 22 true,oW 26 (.pick (.t 22) (.t 25) (oB false)),oM 2 26]
 .ret)
def AJ:aS:={ntmps:=27,results:=[.t 2],mode:=.pure,body :=
 (oQ [oW 2 (.move (oB false))]
 (.seq (oQ [oM 4 0,oW 5 (.len 0 (.t 4)),oW 6 (.move (oI 0))]
 (.block 0 (.loop Pc)))
 Pd))}
theorem c204:aH Tryz.prog Tryz.f204 .pure=some AJ:=by kernel_rfl
def Pb:aM :=
 (oQ [oW 9 (.arith .lss (.t 8) (.t 7))]
 (.seq (.cond (.t 9) .skip (.exit 0))
 (.seq (.block 1 (oQ [oM 10 8,oM 5 10]
 (oQ [oM 11 1,oM 12 0,oM 13 5,oW 14 (.indexAddr 4 (.t 12) (.t 13)),oL 15 4 14,oW 16 (.call (.t 11) [.t 15])]
 (.cond (.t 16) (oQ [oM 17 5,oM 4 17]
 .ret) .skip))))
 (.region [oW 18 (.arith .add (.t 8) (oI 1)),oM 8 18]))))
def C1:aM :=
 (oQ [oW 4 (.move (oI (-1)))]
 .ret)
def AI:aS:={ntmps:=19,results:=[.t 4],mode:=.pure,body :=
 (oQ [oW 4 (.move (oI 0))]
 (.seq (oQ [oM 6 0,oW 7 (.len 1 (.t 6)),oW 8 (.move (oI 0))]
 (.block 0 (.loop Pb)))
 C1))}
theorem c219:aH Tryz.prog Tryz.f219 .pure=some AI:=by kernel_rfl
def AH:aS:={ntmps:=12,results:=[.t 4,.t 5],mode:=.pure,body :=
 (oQ [oW 2 (.box 37 6 (.t 0)),oW 3 (.box 45 2 (.t 1)),oW 4 (.move (oI 0)),oW 5 (.move (oB false))]
 (oQ [oA 6 3 2,oD 7 6,oL 8 2 3,oW 9 (.call (oF 276) [.t 7,.t 8,oF 154]),oX 10 9 0,oX 11 9 1,oM 4 10,oM 5 11]
 .ret))}
theorem c220:aH Tryz.prog Tryz.f220 .pure=some AH:=by kernel_rfl
def AG:aS:={ntmps:=9,results:=[.t 4],mode:=.pure,body :=
 (oQ [oW 4 (.move (oB false))]
 (oQ [oM 5 0,oM 6 1,oW 7 (.call (oF 277) [.t 5,.t 6]),oW 8 (.arith .geq (.t 7) (oI 0)),oM 4 8]
 .ret))}
theorem c221:aH Tryz.prog Tryz.f221 .pure=some AG:=by kernel_rfl
def Pa:aM :=
 (oQ [oW 9 (.arith .lss (.t 8) (.t 7))]
 (.seq (.cond (.t 9) .skip (.exit 0))
 (.seq (.block 1 (oQ [oM 10 8,oM 5 10]
 (oQ [oM 11 1,oM 12 0,oM 13 5,oW 14 (.indexAddr 7 (.t 12) (.t 13)),oL 15 7 14,oW 16 (.call (.t 11) [.t 15])]
 (.cond (.t 16) (oQ [oM 17 5,oM 4 17]
 .ret) .skip))))
 (.region [oW 18 (.arith .add (.t 8) (oI 1)),oM 8 18]))))
def C0:aM :=
 (oQ [oW 4 (.move (oI (-1)))]
 .ret)
def AF:aS:={ntmps:=19,results:=[.t 4],mode:=.pure,body :=
 (oQ [oW 4 (.move (oI 0))]
 (.seq (oQ [oM 6 0,oW 7 (.len 1 (.t 6)),oW 8 (.move (oI 0))]
 (.block 0 (.loop Pa)))
 C0))}
theorem c222:aH Tryz.prog Tryz.f222 .pure=some AF:=by kernel_rfl
def Oz:aM :=
 (oQ [oW 9 (.arith .lss (.t 8) (.t 7))]
 (.seq (.cond (.t 9) .skip (.exit 0))
 (.seq (.block 1 (oQ [oM 10 8,oM 5 10]
 (oQ [oM 11 1,oM 12 0,oM 13 5,oW 14 (.indexAddr 3 (.t 12) (.t 13)),oL 15 3 14,oW 16 (.call (.t 11) [.t 15])]
 (.cond (.t 16) (oQ [oM 17 5,oM 4 17]
 .ret) .skip))))
 (.region [oW 18 (.arith .add (.t 8) (oI 1)),oM 8 18]))))
def B9:aM :=
 (oQ [oW 4 (.move (oI (-1)))]
 .ret)
def AE:aS:={ntmps:=19,results:=[.t 4],mode:=.pure,body :=
 (oQ [oW 4 (.move (oI 0))]
 (.seq (oQ [oM 6 0,oW 7 (.len 1 (.t 6)),oW 8 (.move (oI 0))]
 (.block 0 (.loop Oz)))
 B9))}
theorem c223:aH Tryz.prog Tryz.f223 .pure=some AE:=by kernel_rfl
end Go.Dm.Tc
