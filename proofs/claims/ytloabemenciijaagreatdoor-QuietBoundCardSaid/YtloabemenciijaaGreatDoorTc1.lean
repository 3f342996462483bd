/- A part of the proof. -/
import Derived.Test.YtloabemenciijaaGreatDoorTc0
import Derived.Test.YtloabemenciijaaGreatDoorMm4
import Derived.Test.YtloabemenciijaaGreatDoorRows
import Derived.KernelRfl
namespace Go.Dm.Tc
open Go.Proofs
def RI:aD:={ntmps:=17,results:=[.t 4],mode:=.pure,body :=
 (oQ [oW 2 (.box 45 2 (.t 0)),oW 3 (.box 45 2 (.t 1)),oW 4 (.move (oI 0))]
 (.seq (.draw [oRA 5 0 2,oRD 6 5,oRA 7 0 3,oRD 8 7,nK 9 (.call (oF 132) [.t 6,.t 8]) .create 0,oRA 10 1 2,oRD 11 10,oRA 12 1 3,oRD 13 12,nK 14 (.call (oF 132) [.t 11,.t 13]) .write 1,nK 15 (.buildSlice 3 1 (.int .i64 0) 2 [(0,.t 9),(1,.t 14)]) .create 0,nK 16 (.call (oF 106) [.t 15]) .write 3,nK 4 (.move (.t 16)) .read 4])
 .ret))}
theorem f9:aB Tryz.prog Tryz.f107 .pure=some RI:=by kernel_rfl
def HW:aG :=
 (oQ [oW 8 (.arith .lss (.t 7) (.t 6))]
 (.seq (.cond (.t 8) .skip (.exit 0))
 (.seq (.block 1 (oQ [oM 9 7,oW 10 (.indexAddr 5 (.t 5) (.t 7)),oL 11 5 10,oW 4 (.alloc 119 5 (.agg [.str [],.int .i64 0,.int .i64 0,.int .i64 0,.str []])),oM 3 9,oS 5 4 11]
 (.seq (.draw [oRL 12 5 4,oW 13 (.call (oF 201) [.t 12]),nK 14 (.un .not (.t 13)) .read 1,nK 15 (.move (.t 14)) .read 1,⟨(some 16),.move (.t 3),(some (15,false)),.read,1,false⟩,⟨(some 17),.arith .gtr (.t 16) (oI 0),(some (15,false)),.read,1,false⟩,⟨(some 18),.move (.t 17),(some (15,false)),.read,1,false⟩,⟨(some 19),.move (.t 0),(some (18,true)),.read,1,false⟩,⟨(some 20),.move (.t 3),(some (18,true)),.read,1,false⟩,⟨(some 21),.arith .sub (.t 20) (oI 1),(some (18,true)),.read,1,false⟩,⟨(some 22),.indexAddr 5 (.t 19) (.t 21),(some (18,true)),.read,1,false⟩,⟨(some 23),.fieldAddr 0 (.t 22),(some (18,true)),.read,1,false⟩,⟨(some 24),.load none (.t 23),(some (18,true)),.read,1,false⟩,⟨(some 25),.fieldAddr 0 (.t 4),(some (18,true)),.read,1,false⟩,⟨(some 26),.load none (.t 25),(some (18,true)),.read,1,false⟩,⟨(some 27),.arith .geq (.t 24) (.t 26),(some (18,true)),.read,1,false⟩,⟨(some 28),.pick (.t 18) (.t 27) (oB false),(some (15,false)),.read,1,false⟩,nK 29 (.pick (.t 15) (oB true) (.t 28)) .read 1])
 (.cond (.t 29) (oQ [oW 2 (.move (oB false))]
 .ret) .skip))))
 (.region [oW 30 (.arith .add (.t 7) (oI 1)),oM 7 30]))))
def HX:aG :=
 (oQ [oM 31 0,oW 32 (.len 1 (.t 31)),oW 33 (.arith .leq (.t 32) (oI 5)),oM 2 33]
 .ret)
def RH:aD:={ntmps:=34,results:=[.t 2],mode:=.pure,body :=
 (oQ [oW 2 (.move (oB false))]
 (.seq (oQ [oM 5 0,oW 6 (.len 1 (.t 5)),oW 7 (.move (oI 0))]
 (.block 0 (.loop HW)))
 HX))}
theorem f0:aB Tryz.prog Tryz.f112 .pure=some RH:=by kernel_rfl
def RG:aD:={ntmps:=9,results:=[.t 4],mode:=.pure,body :=
 (oQ [oW 4 (.move (oB false))]
 (oQ [oM 5 0,oM 6 1,oW 7 (.call (oF 202) [.t 5,.t 6]),oW 8 (.arith .geq (.t 7) (oI 0)),oM 4 8]
 .ret))}
theorem e6:aB Tryz.prog Tryz.f113 .pure=some RG:=by kernel_rfl
def RF:aD:={ntmps:=12,results:=[.t 6],mode:=.pure,body :=
 (oQ [oW 3 (.box 37 6 (.t 0)),oW 4 (.box 45 2 (.t 1)),oW 5 (.box 46 1 (.t 2)),oW 6 (.move (oB false))]
 (oQ [oL 7 6 3,oL 8 2 4,oW 9 (.call (oF 204) [.t 7,.t 8]),oW 10 (.makeFunc 205 [.t 5]),oW 11 (.call (oF 113) [.t 9,.t 10]),oM 6 11]
 .ret))}
theorem d9:aB Tryz.prog Tryz.f118 .pure=some RF:=by kernel_rfl
def RE:aD:={ntmps:=4,results:=[.t 0],mode:=.full,body :=
 (oQ [oW 0 (.move (.c .nilp))]
 (oQ [oW 1 (.makeMap),oW 2 (.build [.nmap,.nsl] [(0,1,.t 1)]),oW 3 (.box 297 2 (.t 2)),oM 0 3]
 .ret))}
theorem d8:aB Tryz.prog Tryz.f119 .full=some RE:=by kernel_rfl
def RD:aD:={ntmps:=8,results:=[.t 2],mode:=.full,body :=
 (oQ [oW 2 (.move (.c .nilp))]
 (oQ [oM 3 0,oW 4 (.nilCheck (.t 3)),oA 5 0 4,oD 6 5,oW 7 (.call (oF 58) [.t 6]),oM 2 7]
 .ret))}
theorem d7:aB Tryz.prog Tryz.f120 .full=some RD:=by kernel_rfl
def RC:aD:={ntmps:=8,results:=[(.cell 2 (some 2))],mode:=.full,body :=
 (oQ [oW 2 (.alloc 79 2 (.agg [.int .i64 0,.nsl]))]
 (oQ [oM 3 0,oW 4 (.nilCheck (.t 3)),oA 5 0 4,oL 6 2 5,oW 7 (.call (oF 135) [.t 6]),oS 2 2 7]
 .ret))}
theorem d6:aB Tryz.prog Tryz.f121 .full=some RC:=by kernel_rfl
def RB:aD:={ntmps:=38,results:=[(.cell 4 (some 7)),.t 5],mode:=.full,body :=
 (oQ [oW 3 (.box 95 9 (.t 1)),oW 4 (.alloc 92 7 (.agg [.int .i64 0,.int .i64 0,.int .i64 0,.int .i64 0,.int .i64 0,.int .i64 0,.nsl])),oW 5 (.move (.c .nili))]
 (.seq (oQ [oA 6 0 3,oD 7 6]
 (.block 0 (oQ [oW 9 (.arith .eql (.t 7) (oI 1)),oM 8 9]
 (.cond (.t 8) (oQ [oM 10 0,oA 11 4 3,oD 12 11,oW 13 (.call (oF 213) [.t 10,.t 12]),oX 14 13 0,oX 15 13 1,oS 7 4 14,oM 5 15]
 .ret) (.seq (oQ [oW 17 (.arith .eql (.t 7) (oI 8)),oM 16 17]
 (.cond (.t 16) .skip (.region [oW 18 (.arith .eql (.t 7) (oI 9)),oM 16 18])))
 (.cond (.t 16) (oQ [oM 19 0,oL 20 9 3,oW 21 (.call (oF 214) [.t 19,.t 20]),oX 22 21 0,oX 23 21 1,oS 7 4 22,oM 5 23]
 .ret) (.seq (oQ [oW 25 (.arith .eql (.t 7) (oI 2)),oM 24 25]
 (.cond (.t 24) .skip (oQ [oW 26 (.arith .eql (.t 7) (oI 3)),oM 24 26]
 (.cond (.t 24) .skip (oQ [oW 27 (.arith .eql (.t 7) (oI 4)),oM 24 27]
 (.cond (.t 24) .skip (oQ [oW 28 (.arith .eql (.t 7) (oI 5)),oM 24 28]
 (.cond (.t 24) .skip (oQ [oW 29 (.arith .eql (.t 7) (oI 6)),oM 24 29]
 (.cond (.t 24) .skip (.region [oW 30 (.arith .eql (.t 7) (oI 7)),oM 24 30])))))))))))
 (.cond (.t 24) (oQ [oM 31 0,oL 32 9 3,oW 33 (.call (oF 215) [.t 31,.t 32]),oX 34 33 0,oX 35 33 1,oS 7 4 34,oM 5 35]
 .ret) .skip))))))))
 (oQ [oW 36 (.build [.int .i64 0,.int .i64 0,.int .i64 0,.int .i64 0,.int .i64 0,.int .i64 0,.nsl] []),oW 37 (.makeIface 57 (oI 1)),oS 7 4 36,oM 5 37]
 .ret)))}
theorem d5:aB Tryz.prog Tryz.f125 .full=some RB:=by kernel_rfl
def RA:aD:={ntmps:=30,results:=[.t 6],mode:=.full,body :=
 (oQ [oW 6 (.move (oB false))]
 (oQ [oM 9 0,oW 10 (.call (oF 120) [.t 9]),oW 11 (.call (oF 46) [.t 10]),oM 7 11]
 (.seq (oQ [oM 12 7,oW 13 (.len 1 (.t 12)),oW 14 (.arith .eql (.t 13) (oI 0))]
 (.cond (.t 14) (oQ [oW 6 (.move (oB false))]
 .ret) .skip))
 (oQ [oM 15 7,oM 16 1,oM 17 2,oM 18 7,oW 19 (.len 1 (.t 18)),oW 20 (.call (oF 216) [.t 16,.t 17,.t 19]),oW 21 (.indexAddr 2 (.t 15) (.t 20)),oL 22 2 21,oW 8 (.alloc 90 2 (.agg [.int .i64 0,.int .i64 0])),oS 2 8 22]
 (oQ [oM 23 0,oW 24 (.indexArr 2 1 (.t 8) (oI 0)),oD 25 24,oW 26 (.indexArr 2 1 (.t 8) (oI 1)),oD 27 26,oW 28 (.build [.int .i64 0,.int .i64 0,.int .i64 0,.int .i64 0,.int .i64 0,.int .i64 0,.nsl,.nsl,.nsl] [(0,1,oI 8),(4,1,.t 25),(5,1,.t 27)]),oW 29 (.call (oF 37) [.t 23,.t 28])]
 (oQ [oW 6 (.move (oB true))]
 .ret))))))}
theorem d4:aB Tryz.prog Tryz.f126 .full=some RA:=by kernel_rfl
def Iw:aD:={ntmps:=37,results:=[],mode:=.full,body :=
 (oQ [oM 6 0,oM 7 1,oW 8 (.arith .neq (.t 6) (.t 7)),oM 9 8,gD 10 2 9 true,gM 11 0 9 true,gM 12 1 9 true,gW 13 (.build [.int .i64 0,.int .i64 0] [(0,1,.t 11),(1,1,.t 12)]) 9 true,gW 14 (.lookup (.agg [1,1]) (.bool false) false (.t 10) (.t 13)) 9 true,gW 15 (.un .not (.t 14)) 9 true,oW 16 (.pick (.t 9) (.t 15) (oB false)),oM 17 16,gD 18 2 17 true,gM 19 1 17 true,gM 20 0 17 true,gW 21 (.build [.int .i64 0,.int .i64 0] [(0,1,.t 19),(1,1,.t 20)]) 17 true,gW 22 (.lookup (.agg [1,1]) (.bool false) false (.t 18) (.t 21)) 17 true,gW 23 (.un .not (.t 22)) 17 true,oW 24 (.pick (.t 17) (.t 23) (oB false))]
 (.cond (.t 24) (oQ [oD 25 2,oM 26 0,oM 27 1,oW 28 (.build [.int .i64 0,.int .i64 0] [(0,1,.t 26),(1,1,.t 27)]),oZ (.mapUpdate (.agg [1,1]) (.t 25) (.t 28) (oB true))]
 (.region [oA 29 1 3,oD 30 29,oM 31 0,oM 32 1,oW 33 (.build [.int .i64 0,.int .i64 0] [(0,1,.t 31),(1,1,.t 32)]),oW 34 (.buildSlice 90 2 (.agg [.int .i64 0,.int .i64 0]) 1 [(0,.t 33)]),oW 35 (.append 90 2 16 (.t 30) (.t 34)),oA 36 1 3,oS 1 36 35])) .skip))}
theorem c9:aB Tryz.prog Tryz.f127 .full=some Iw:=by kernel_rfl
def Iv:aD:={ntmps:=15,results:=[.t 4],mode:=.pure,body :=
 (oQ [oW 4 (.move (oI 0))]
 (.seq (oQ [oM 5 0,oW 6 (.len 1 (.t 5)),oW 7 (.arith .eql (.t 6) (oI 0))]
 (.cond (.t 7) (oQ [oW 4 (.move (oI 0))]
 .ret) .skip))
 (oQ [oM 8 0,oM 9 1,oM 10 0,oW 11 (.len 1 (.t 10)),oW 12 (.arith .rem (.t 9) (.t 11)),oW 13 (.indexAddr 1 (.t 8) (.t 12)),oD 14 13,oM 4 14]
 .ret)))}
theorem c6:aB Tryz.prog Tryz.f128 .pure=some Iv:=by kernel_rfl
def Ow:aD:={ntmps:=22,results:=[.t 4],mode:=.pure,body :=
 (oQ [oW 2 (.box 79 2 (.t 0)),oW 3 (.box 90 2 (.t 1)),oW 4 (.move (oB false))]
 (oQ [oL 5 2 2,oW 6 (.indexArr 2 1 (.t 3) (oI 0)),oD 7 6,oW 8 (.call (oF 217) [.t 5,.t 7]),oM 9 8,gL 10 2 2 9 true,gW 11 (.indexArr 2 1 (.t 3) (oI 1)) 9 true,gD 12 11 9 true,gW 13 (.call (oF 217) [.t 10,.t 12]) 9 true,oW 14 (.pick (.t 9) (.t 13) (oB false)),oM 15 14,gW 16 (.indexArr 2 1 (.t 3) (oI 0)) 15 true,gD 17 16 15 true,gW 18 (.indexArr 2 1 (.t 3) (oI 1)) 15 true,gD 19 18 15 true,gW 20 (.arith .neq (.t 17) (.t 19)) 15 true,oW 21 (.pick (.t 15) (.t 20) (oB false)),oM 4 21]
 .ret))}
theorem c5:aB Tryz.prog Tryz.f129 .pure=some Ow:=by kernel_rfl
def yT:aD:={ntmps:=17,results:=[.t 4],mode:=.pure,body :=
 (oQ [oW 2 (.box 90 2 (.t 0)),oW 3 (.box 90 2 (.t 1)),oW 4 (.move (oI 0))]
 (.seq (.draw [oR 5 (.indexArr 2 1 (.t 2) (oI 0)),oRD 6 5,oR 7 (.indexArr 2 1 (.t 3) (oI 0)),oRD 8 7,nK 9 (.call (oF 132) [.t 6,.t 8]) .create 0,oR 10 (.indexArr 2 1 (.t 2) (oI 1)),oRD 11 10,oR 12 (.indexArr 2 1 (.t 3) (oI 1)),oRD 13 12,nK 14 (.call (oF 132) [.t 11,.t 13]) .write 1,nK 15 (.buildSlice 3 1 (.int .i64 0) 2 [(0,.t 9),(1,.t 14)]) .create 0,nK 16 (.call (oF 106) [.t 15]) .write 3,nK 4 (.move (.t 16)) .read 4])
 .ret))}
theorem KL:aB Tryz.prog Tryz.f131 .pure=some yT:=by kernel_rfl
def pF:aD:={ntmps:=20,results:=[.t 4],mode:=.pure,body :=
 (oQ [oW 4 (.move (oI 0))]
 (oQ [oM 7 0,oW 8 (.call (oF 220) [.t 7]),oM 5 8]
 (oQ [oM 9 1,oW 10 (.call (oF 220) [.t 9]),oM 6 10]
 (.seq (oQ [oM 11 5]
 (.cond (.t 11) (.seq (oQ [oM 12 6]
 (.cond (.t 12) (oQ [oW 4 (.move (oI 0))]
 .ret) .skip))
 (oQ [oW 4 (.move (oI (-1)))]
 .ret)) .skip))
 (.seq (oQ [oM 13 6]
 (.cond (.t 13) (oQ [oW 4 (.move (oI 1))]
 .ret) .skip))
 (.seq (oQ [oM 14 0,oM 15 1,oW 16 (.arith .lss (.t 14) (.t 15))]
 (.cond (.t 16) (oQ [oW 4 (.move (oI (-1)))]
 .ret) .skip))
 (.seq (oQ [oM 17 0,oM 18 1,oW 19 (.arith .gtr (.t 17) (.t 18))]
 (.cond (.t 19) (oQ [oW 4 (.move (oI 1))]
 .ret) .skip))
 (oQ [oW 4 (.move (oI 0))]
 .ret))))))))}
theorem KK:aB Tryz.prog Tryz.f132 .pure=some pF:=by kernel_rfl
def HU:aG :=
 (.seq (oQ [oM 29 5,oM 30 4,oW 31 (.len 1 (.t 30)),oW 32 (.arith .lss (.t 29) (.t 31))]
 (.cond (.t 32) .skip (.exit 2)))
 (.seq (.block 3 (.seq (.draw [oRM 35 4,oRM 36 5,oR 37 (.indexAddr 2 (.t 35) (.t 36)),oRL 38 2 37,oRM 39 4,oRM 40 5,oR 41 (.arith .sub (.t 40) (oI 1)),oR 42 (.indexAddr 2 (.t 39) (.t 41)),oRL 43 2 42,oR 44 (.eqa true [1,1] (.t 38) (.t 43))])
 (.cond (.t 44) (oQ [oM 45 0,oM 46 3,oM 47 4,oM 48 5,oW 49 (.indexAddr 2 (.t 47) (.t 48)),oL 50 2 49,oW 51 (.indexAddr 2 (.t 45) (.t 46)),oS 2 51 50]
 (.region [oM 52 3,oW 53 (.arith .add (.t 52) (oI 1)),oM 3 53])) .skip)))
 (.region [oM 33 5,oW 34 (.arith .add (.t 33) (oI 1)),oM 5 34])))
def HV:aG :=
 (oQ [oM 54 0,oM 55 3,oW 56 (.sliceSl 2 (.t 54) (some (.t 55)) none),oZ (.clear 2 (.agg [.int .i64 0,.int .i64 0]) (.t 56))]
 (oQ [oM 57 0,oM 58 3,oW 59 (.sliceSl 2 (.t 57) none (some (.t 58))),oM 2 59]
 .ret))
def E1:aG :=
 (.region [oM 14 3,oW 15 (.arith .add (.t 14) (oI 1)),oM 3 15])
def Ez:aG :=
 (.seq (oQ [oM 10 3,oM 11 0,oW 12 (.len 1 (.t 11)),oW 13 (.arith .lss (.t 10) (.t 12))]
 (.cond (.t 13) .skip (.exit 0)))
 (.seq (.block 1 (.seq (.draw [oRM 16 0,oRM 17 3,oR 18 (.indexAddr 2 (.t 16) (.t 17)),oRL 19 2 18,oRM 20 0,oRM 21 3,oR 22 (.arith .sub (.t 21) (oI 1)),oR 23 (.indexAddr 2 (.t 20) (.t 22)),oRL 24 2 23,oR 25 (.eqa false [1,1] (.t 19) (.t 24))])
 (.cond (.t 25) (oQ [oM 26 0,oM 27 3,oW 28 (.sliceSl 2 (.t 26) (some (.t 27)) none),oM 4 28]
 (.seq (oQ [oW 5 (.move (oI 1))]
 (.block 2 (.loop HU)))
 HV)) .skip)))
 E1))
def Ov:aG :=
 (oQ [oM 60 0,oM 2 60]
 .ret)
def Iu:aD:={ntmps:=61,results:=[.t 2],mode:=.full,body :=
 (oQ [oW 2 (.move (.c .nsl))]
 (.seq (oQ [oM 6 0,oW 7 (.len 1 (.t 6)),oW 8 (.arith .lss (.t 7) (oI 2))]
 (.cond (.t 8) (oQ [oM 9 0,oM 2 9]
 .ret) .skip))
 (.seq (oQ [oW 3 (.move (oI 1))]
 (.block 0 (.loop Ez)))
 Ov)))}
theorem a9:aB Tryz.prog Tryz.f133 .full=some Iu:=by kernel_rfl
def HR:aG :=
 (oQ [oW 11 (.arith .lss (.t 10) (.t 9))]
 (.seq (.cond (.t 11) .skip (.exit 0))
 (.seq (.block 1 (oQ [oM 12 10,oW 13 (.indexAddr 2 (.t 8) (.t 10)),oL 14 2 13,oW 5 (.alloc 90 2 (.agg [.int .i64 0,.int .i64 0])),oM 4 12,oS 2 5 14]
 (.seq (oQ [oL 15 2 1,oL 16 2 5,oW 17 (.call (oF 129) [.t 15,.t 16]),oW 18 (.un .not (.t 17)),oM 19 18,gM 20 3 19 false,gL 21 2 5 19 false,gW 22 (.call (oF 221) [.t 21]) 19 false,gW 23 (.lookup (.agg [1,1]) (.bool false) false (.t 20) (.t 22)) 19 false,oW 24 (.pick (.t 19) (oB true) (.t 23))]
 (.cond (.t 24) (oQ [oM 25 4,oW 26 (.makeIface 57 (oI 2)),oW 27 (.call (oF 64) [(.c (.str [103,114,97,112,104])),.t 25,.t 26]),oM 2 27]
 .ret) .skip))
 (.region [oM 28 3,oL 29 2 5,oW 30 (.call (oF 221) [.t 29]),oZ (.mapUpdate (.agg [1,1]) (.t 28) (.t 30) (oB true))]))))
 (.region [oW 31 (.arith .add (.t 10) (oI 1)),oM 10 31]))))
def HT:aG :=
 (.seq (.seq (.draw [oRA 32 0 1,oRD 33 32,oR 34 (.arith .lss (.t 33) (oI 1)),oRM 35 34,rA 36 0 1 35 false,rD 37 36 35 false,rW 38 (.arith .gtr (.t 37) (oI 64)) 35 false,oR 39 (.pick (.t 35) (oB true) (.t 38)),oRM 40 39,rA 41 1 1 40 false,rD 42 41 40 false,rW 43 (.len 1 (.t 42)) 40 false,rW 44 (.arith .gtr (.t 43) (oI 200)) 40 false,oR 45 (.pick (.t 40) (oB true) (.t 44)),oRM 46 45,rL 47 2 1 46 false,⟨(some 48),.call (oF 222) [.t 47,oI 0],(some (46,false)),.create,0,false⟩,⟨(some 49),.len 2 (.t 48),(some (46,false)),.read,1,false⟩,rA 50 0 1 46 false,rD 51 50 46 false,⟨(some 52),.arith .neq (.t 49) (.t 51),(some (46,false)),.read,1,false⟩,nK 53 (.pick (.t 46) (oB true) (.t 52)) .read 1])
 (.cond (.t 53) (oQ [oW 54 (.makeIface 57 (oI 2)),oW 55 (.call (oF 64) [(.c (.str [103,114,97,112,104])),(oI (-1)),.t 54]),oM 2 55]
 .ret) .skip))
 (oQ [oW 2 (.move (.c .nili))]
 .ret))
def QZ:aD:={ntmps:=56,results:=[.t 2],mode:=.pure,body :=
 (oQ [oW 1 (.box 79 2 (.t 0)),oW 2 (.move (.c .nili))]
 (oQ [oW 6 (.makeMap),oM 3 6]
 (.seq (oQ [oA 7 1 1,oD 8 7,oW 9 (.len 1 (.t 8)),oW 10 (.move (oI 0))]
 (.block 0 (.loop HR)))
 HT)))}
theorem a7:aB Tryz.prog Tryz.f134 .pure=some QZ:=by kernel_rfl
def QY:aD:={ntmps:=8,results:=[(.cell 2 (some 2))],mode:=.pure,body :=
 (oQ [oW 1 (.box 79 2 (.t 0)),oW 2 (.alloc 79 2 (.agg [.int .i64 0,.nsl]))]
 (oQ [oA 3 1 1,oD 4 3,oW 5 (.call (oF 223) [.t 4]),oA 6 1 1,oS 1 6 5]
 (oQ [oL 7 2 1,oS 2 2 7]
 .ret)))}
theorem a6:aB Tryz.prog Tryz.f135 .pure=some QY:=by kernel_rfl
def QX:aD:={ntmps:=8,results:=[.t 2],mode:=.full,body :=
 (oQ [oW 1 (.box 79 2 (.t 0)),oW 2 (.move (.c .nilp))]
 (oQ [oL 3 2 1,oW 4 (.call (oF 42) [.t 3]),oW 5 (.makeMap),oW 6 (.build [.nsl,.nmap] [(0,1,.t 4),(1,1,.t 5)]),oW 7 (.box 316 2 (.t 6)),oM 2 7]
 .ret))}
theorem ZZ:aB Tryz.prog Tryz.f136 .full=some QX:=by kernel_rfl
def HP:aG :=
 (oQ [oW 12 (.arith .lss (.t 11) (.t 10))]
 (.seq (.cond (.t 12) .skip (.exit 0))
 (.seq (.block 1 (oQ [oW 13 (.indexAddr 2 (.t 9) (.t 11)),oL 14 2 13,oW 7 (.alloc 90 2 (.agg [.int .i64 0,.int .i64 0])),oS 2 7 14]
 (.block 2 (oQ [oL 16 2 2,oL 17 2 7,oW 18 (.call (oF 129) [.t 16,.t 17]),oW 19 (.un .not (.t 18)),oM 15 19]
 (.cond (.t 15) .skip (oQ [oW 21 (.indexArr 2 1 (.t 7) (oI 0)),oD 22 21,oM 23 1,oW 24 (.arith .eql (.t 22) (.t 23)),oM 20 24]
 (.cond (.t 20) (.region [oM 25 5,oW 26 (.indexArr 2 1 (.t 7) (oI 1)),oD 27 26,oW 28 (.buildSlice 3 1 (.int .i64 0) 1 [(0,.t 27)]),oW 29 (.append 3 1 8 (.t 25) (.t 28)),oM 5 29]) (oQ [oW 31 (.indexArr 2 1 (.t 7) (oI 1)),oD 32 31,oM 33 1,oW 34 (.arith .eql (.t 32) (.t 33)),oM 30 34]
 (.cond (.t 30) (.region [oM 35 5,oW 36 (.indexArr 2 1 (.t 7) (oI 0)),oD 37 36,oW 38 (.buildSlice 3 1 (.int .i64 0) 1 [(0,.t 37)]),oW 39 (.append 3 1 8 (.t 35) (.t 38)),oM 5 39]) .skip)))))))))
 (.region [oW 40 (.arith .add (.t 11) (oI 1)),oM 11 40]))))
def HQ:aG :=
 (oQ [oM 41 5,oW 42 (.call (oF 178) [.t 41])]
 (oQ [oM 43 5,oW 44 (.call (oF 179) [.t 43]),oM 4 44]
 .ret))
def QW:aD:={ntmps:=45,results:=[.t 4],mode:=.pure,body :=
 (oQ [oW 2 (.box 79 2 (.t 0)),oW 4 (.move (.c .nsl))]
 (oQ [oW 5 (.move (.c .nsl))]
 (.seq (oQ [oA 8 1 2,oD 9 8,oW 10 (.len 1 (.t 9)),oW 11 (.move (oI 0))]
 (.block 0 (.loop HP)))
 HQ)))}
theorem ZY:aB Tryz.prog Tryz.f137 .pure=some QW:=by kernel_rfl
def QV:aD:={ntmps:=39,results:=[.t 6],mode:=.full,body :=
 (oQ [oW 6 (.move (.c .nili))]
 (.seq (oQ [oM 9 0,oM 10 1,oW 11 (.call (oF 147) [.t 9,.t 10]),oW 12 (.un .not (.t 11))]
 (.cond (.t 12) (oQ [oM 13 1,oW 14 (.makeIface 57 (oI 3)),oW 15 (.call (oF 64) [(.c (.str [110,101,116])),.t 13,.t 14]),oM 6 15]
 .ret) .skip))
 (oQ [oM 17 2,oM 18 0,oW 19 (.nilCheck (.t 18)),oA 20 2 19,oD 21 20,oM 22 1,oW 23 (.indexAddr 6 (.t 21) (.t 22)),oL 24 6 23,oW 25 (.call (.t 17) [.t 24]),oM 16 25,oX 26 16 0,oX 27 16 1,oW 7 (.alloc 37 6 (.agg [.int .i64 0,.nsl,.nsl,.nsl,.nsl,.nsl])),oS 6 7 26,oM 8 27]
 (.seq (.draw [oRM 28 0,oR 29 (.nilCheck (.t 28)),oRA 30 2 29,oRD 31 30,oRL 33 6 7,oRM 32 1,oR 34 (.indexAddr 6 (.t 31) (.t 32)),oS 6 34 33])
 (oQ [oM 35 0,oM 36 1,oM 37 8,oW 38 (.call (oF 145) [.t 35,.t 36,.t 37])]
 (oQ [oW 6 (.move (.c .nili))]
 .ret))))))}
theorem ZX:aB Tryz.prog Tryz.f138 .full=some QV:=by kernel_rfl
def QU:aD:={ntmps:=12,results:=[(.cell 4 (some 6)),.t 5],mode:=.full,body :=
 (oQ [oW 3 (.box 37 6 (.t 0)),oW 4 (.alloc 37 6 (.agg [.int .i64 0,.nsl,.nsl,.nsl,.nsl,.nsl])),oW 5 (.move (.c .nsl))]
 (oQ [oL 6 6 3,oL 7 2 1,oD 8 2,oW 9 (.call (oF 78) [.t 6,(oI (-1)),.t 7,.t 8]),oX 10 9 0,oX 11 9 1,oS 6 4 10,oM 5 11]
 .ret))}
theorem ZW:aB Tryz.prog Tryz.f139 .full=some QU:=by kernel_rfl
def HN:aG :=
 (oQ [oW 12 (.arith .lss (.t 11) (.t 10))]
 (.seq (.cond (.t 12) .skip (.exit 0))
 (.seq (.block 1 (oQ [oW 13 (.indexAddr 2 (.t 9) (.t 11)),oL 14 2 13,oW 5 (.alloc 90 2 (.agg [.int .i64 0,.int .i64 0])),oS 2 5 14]
 (.seq (.draw [oRM 15 0,oR 16 (.nilCheck (.t 15)),oRA 17 1 16,oRD 18 17,oRL 19 2 5,oR 20 (.lookup (.agg [1,1]) .nsl false (.t 18) (.t 19)),oR 21 (.len 1 (.t 20)),oR 22 (.arith .gtr (.t 21) (oI 0))])
 (.cond (.t 22) (.region [oM 23 3,oL 24 2 5,oW 25 (.buildSlice 90 2 (.agg [.int .i64 0,.int .i64 0]) 1 [(0,.t 24)]),oW 26 (.append 90 2 16 (.t 23) (.t 25)),oM 3 26]) .skip))))
 (.region [oW 27 (.arith .add (.t 11) (oI 1)),oM 11 27]))))
def HO:aG :=
 (oQ [oM 28 3,oM 2 28]
 .ret)
def QT:aD:={ntmps:=29,results:=[.t 2],mode:=.full,body :=
 (oQ [oW 2 (.move (.c .nsl))]
 (oQ [oW 3 (.move (.c .nsl))]
 (.seq (oQ [oM 6 0,oW 7 (.nilCheck (.t 6)),oA 8 0 7,oD 9 8,oW 10 (.len 1 (.t 9)),oW 11 (.move (oI 0))]
 (.block 0 (.loop HN)))
 HO)))}
theorem ZV:aB Tryz.prog Tryz.f142 .full=some QT:=by kernel_rfl
def QS:aD:={ntmps:=35,results:=[(.cell 6 (some 7)),.t 7],mode:=.full,body :=
 (oQ [oW 6 (.alloc 49 7 (.agg [.int .i64 0,.int .i64 0,.int .i64 0,.int .i64 0,.int .i64 0,.nsl,.nsl])),oW 7 (.move (.c .nili))]
 (oQ [oM 10 1,oM 11 2,oW 12 (.build [.int .i64 0,.int .i64 0] [(0,1,.t 10),(1,1,.t 11)]),oW 8 (.alloc 90 2 (.agg [.int .i64 0,.int .i64 0])),oS 2 8 12]
 (.seq (.draw [oRM 13 0,oR 14 (.nilCheck (.t 13)),oRA 15 1 14,oRD 16 15,oRL 17 2 8,oR 18 (.lookup (.agg [1,1]) .nsl false (.t 16) (.t 17)),oRM 9 18])
 (.seq (oQ [oM 19 9,oW 20 (.len 1 (.t 19)),oW 21 (.arith .eql (.t 20) (oI 0))]
 (.cond (.t 21) (oQ [oW 22 (.build [.int .i64 0,.int .i64 0,.int .i64 0,.int .i64 0,.int .i64 0,.nsl,.nsl] []),oM 23 1,oW 24 (.call (oF 226) [.t 23]),oS 7 6 22,oM 7 24]
 .ret) .skip))
 (.seq (.draw [oRM 25 0,oR 26 (.nilCheck (.t 25)),oRA 27 1 26,oRD 28 27,oRL 29 2 8,oRM 30 9,oR 31 (.sliceSl 7 (.t 30) (some (oI 1)) none),oZ (.mapUpdate (.agg [1,1]) (.t 28) (.t 29) (.t 31))])
 (oQ [oM 32 9,oW 33 (.indexAddr 7 (.t 32) (oI 0)),oL 34 7 33,oS 7 6 34,oW 7 (.move (.c .nili))]
 .ret))))))}
theorem ZU:aB Tryz.prog Tryz.f144 .full=some QS:=by kernel_rfl
def HM:aG :=
 (oQ [oW 11 (.arith .lss (.t 10) (.t 9))]
 (.seq (.cond (.t 11) .skip (.exit 0))
 (.seq (.block 1 (oQ [oW 12 (.indexAddr 8 (.t 8) (.t 10)),oL 13 8 12,oW 7 (.alloc 168 8 (.agg [.int .i64 0,.int .i64 0,.int .i64 0,.int .i64 0,.int .i64 0,.int .i64 0,.nsl,.nsl])),oS 8 7 13]
 (.seq (.draw [oRM 14 0,oR 15 (.nilCheck (.t 14)),oRA 16 3 15,oRD 17 16,oRA 19 0 7,oRD 20 19,oRA 21 1 7,oRL 22 7 21,oRM 18 1,nK 23 (.buildSlice 49 7 (.agg [.int .i64 0,.int .i64 0,.int .i64 0,.int .i64 0,.int .i64 0,.nsl,.nsl]) 1 [(0,.t 22)]) .create 0,nK 24 (.call (oF 227) [.t 17,.t 18,.t 20,.t 23]) .write 1])
 (oQ [oA 25 1 7,oA 26 0 25,oD 27 26,oW 28 (.arith .eql (.t 27) (oI 5))]
 (.cond (.t 28) (.draw [oRM 30 0,oR 31 (.nilCheck (.t 30)),oRA 32 4 31,oRD 33 32,oRA 35 0 7,oRD 36 35,oRA 37 1 7,oRA 38 3 37,oRL 39 2 38,oRM 34 1,oR 40 (.build [.int .i64 0,.int .i64 0,.int .i64 0,.int .i64 0] [(0,1,.t 34),(1,1,.t 36),(2,2,.t 39)]),nK 41 (.buildSlice 248 4 (.agg [.int .i64 0,.int .i64 0,.int .i64 0,.int .i64 0]) 1 [(0,.t 40)]) .create 0,nK 42 (.append 248 4 32 (.t 33) (.t 41)) .write 1,oRM 29 0,nK 43 (.nilCheck (.t 29)) .read 2,nK 44 (.fieldAddr 4 (.t 43)) .read 2,⟨none,.store 1 (.t 44) (.t 42),none,.write,2,false⟩]) .skip)))))
 (.region [oW 45 (.arith .add (.t 10) (oI 1)),oM 10 45]))))
def QR:aD:={ntmps:=46,results:=[],mode:=.full,body :=
 (oQ [oM 8 2,oW 9 (.len 1 (.t 8)),oW 10 (.move (oI 0))]
 (.block 0 (.loop HM)))}
theorem ZT:aB Tryz.prog Tryz.f145 .full=some QR:=by kernel_rfl
def QQ:aD:={ntmps:=12,results:=[.t 4,.t 5],mode:=.pure,body :=
 (oQ [oW 2 (.box 37 6 (.t 0)),oW 3 (.box 45 2 (.t 1)),oW 4 (.move (oI 0)),oW 5 (.move (oB false))]
 (oQ [oA 6 2 2,oD 7 6,oL 8 2 3,oW 9 (.call (oF 228) [.t 7,.t 8,oF 229]),oX 10 9 0,oX 11 9 1,oM 4 10,oM 5 11]
 .ret))}
theorem ZS:aB Tryz.prog Tryz.f146 .pure=some QQ:=by kernel_rfl
def QP:aD:={ntmps:=16,results:=[.t 4],mode:=.full,body :=
 (oQ [oW 4 (.move (oB false))]
 (oQ [oM 5 1,oW 6 (.arith .geq (.t 5) (oI 0)),oM 7 6,gM 8 1 7 true,gM 9 0 7 true,gW 10 (.nilCheck (.t 9)) 7 true,gA 11 2 10 7 true,gD 12 11 7 true,gW 13 (.len 1 (.t 12)) 7 true,gW 14 (.arith .lss (.t 8) (.t 13)) 7 true,oW 15 (.pick (.t 7) (.t 14) (oB false)),oM 4 15]
 .ret))}
theorem ZR:aB Tryz.prog Tryz.f147 .full=some QP:=by kernel_rfl
def QO:aD:={ntmps:=12,results:=[(.cell 4 (some 6)),.t 5],mode:=.full,body :=
 (oQ [oW 3 (.box 37 6 (.t 0)),oW 4 (.alloc 37 6 (.agg [.int .i64 0,.nsl,.nsl,.nsl,.nsl,.nsl])),oW 5 (.move (.c .nsl))]
 (oQ [oL 6 6 3,oL 7 2 1,oD 8 2,oW 9 (.call (oF 155) [.t 6,.t 7,.t 8]),oX 10 9 0,oX 11 9 1,oS 6 4 10,oM 5 11]
 .ret))}
theorem ZQ:aB Tryz.prog Tryz.f154 .full=some QO:=by kernel_rfl
def HK:aG :=
 (oQ [oW 37 (.arith .lss (.t 36) (.t 35))]
 (.seq (.cond (.t 37) .skip (.exit 0))
 (.seq (.block 1 (oQ [oW 38 (.indexAddr 4 (.t 34) (.t 36)),oL 39 4 38,oW 12 (.alloc 86 4 (.agg [.int .i64 0,.int .i64 0,.nsl,.int .i64 0])),oS 4 12 39]
 (.seq (oQ [oM 40 2,oA 41 2 12,oD 42 41,oW 43 (.call (oF 182) [.t 40,.t 42]),oW 44 (.un .not (.t 43))]
 (.cond (.t 44) (.exit 1) .skip))
 (oQ [oL 46 6 3,oA 47 0 12,oL 48 2 47,oL 49 2 4,oM 50 2,oW 51 (.build [.int .i64 0,.int .i64 0,.int .i64 0,.int .i64 0,.nsl,.int .i64 0,.bool false] [(0,2,.t 48),(2,2,.t 49),(4,1,.t 50),(5,1,(oI (-1)))]),oW 52 (.call (oF 186) [.t 46,.t 51]),oM 45 52,oX 53 45 0,oX 54 45 1,oW 13 (.alloc 37 6 (.agg [.int .i64 0,.nsl,.nsl,.nsl,.nsl,.nsl])),oS 6 13 53,oM 14 54]
 (.draw [oRL 55 6 13,oRM 56 10,oRM 57 14,nK 58 (.append 168 8 96 (.t 56) (.t 57)) .create 0,⟨none,.store 6 (.t 3) (.t 55),none,.write,1,false⟩,nK 10 (.move (.t 58)) .read 2])))))
 (.region [oW 59 (.arith .add (.t 36) (oI 1)),oM 36 59]))))
def HL:aG :=
 (oQ [oL 60 6 3,oM 61 10,oS 6 6 60,oM 7 61]
 .ret)
def QN:aD:={ntmps:=62,results:=[(.cell 6 (some 6)),.t 7],mode:=.frz,body :=
 (oQ [oW 3 (.box 37 6 (.t 0)),oW 4 (.box 45 2 (.t 1)),oW 6 (.alloc 37 6 (.agg [.int .i64 0,.nsl,.nsl,.nsl,.nsl,.nsl])),oW 7 (.move (.c .nsl))]
 (oQ [oL 16 6 3,oL 17 2 4,oW 18 (.call (oF 230) [.t 16,.t 17]),oM 15 18,oX 19 15 0,oX 20 15 1,oM 8 19,oM 9 20]
 (.seq (oQ [oM 21 9]
 (.cond (.t 21) (oQ [oL 22 6 3,oS 6 6 22,oW 7 (.move (.c .nsl))]
 .ret) .skip))
 (.seq (.draw [oRA 23 5 3,oRD 24 23,nK 25 (.call (oF 152) [.t 24]) .create 0,oRL 27 2 4,oRM 26 8,oRM 28 2,oR 29 (.build [.int .i64 0,.int .i64 0,.nsl] [(0,2,.t 27),(2,1,.t 28)]),nK 30 (.buildSlice 151 3 (.agg [.int .i64 0,.int .i64 0,.nsl]) 1 [(0,.t 29)]) .create 0,nK 31 (.call (oF 231) [.t 25,.t 26,.t 30]) .write 2,nK 32 (.fieldAddr 5 (.t 3)) .read 3,⟨none,.store 1 (.t 32) (.t 31),none,.write,3,false⟩])
 (oQ [oW 10 (.move (.c .nsl))]
 (.seq (oQ [oA 33 2 3,oD 34 33,oW 35 (.len 1 (.t 34)),oW 36 (.move (oI 0))]
 (.block 0 (.loop HK)))
 HL))))))}
theorem ZP:aB Tryz.prog Tryz.f155 .frz=some QN:=by kernel_rfl
def QM:aD:={ntmps:=22,results:=[(.cell 6 (some 6)),.t 7],mode:=.full,body :=
 (oQ [oW 5 (.box 37 6 (.t 0)),oW 6 (.alloc 37 6 (.agg [.int .i64 0,.nsl,.nsl,.nsl,.nsl,.nsl])),oW 7 (.move (.c .nsl))]
 (oQ [oL 11 6 5,oL 12 2 1,oL 13 2 2,oD 14 3,oW 15 (.build [.int .i64 0,.int .i64 0,.int .i64 0,.int .i64 0,.int .i64 0,.nsl,.nsl] [(0,1,oI 5),(1,2,.t 12),(3,2,.t 13),(6,1,.t 14)]),oW 16 (.call (oF 82) [.t 11,(oI (-1)),.t 15]),oM 10 16,oX 17 10 0,oX 18 10 1,oM 8 17,oM 9 18]
 (oQ [oM 19 9,oS 1 4 19]
 (oQ [oL 20 6 5,oM 21 8,oS 6 6 20,oM 7 21]
 .ret))))}
theorem ZO:aB Tryz.prog Tryz.f156 .full=some QM:=by kernel_rfl
def HI:aG :=
 (.draw [oRM 23 3,oR 24 (.nilCheck (.t 23)),oRA 25 1 24,oRD 26 25,oRL 27 2 4,oRM 28 5,nK 29 (.call (oF 225) [.t 28]) .create 0,⟨none,.mapUpdate (.agg [1,1]) (.t 26) (.t 27) (.t 29),none,.write,1,false⟩])
def HJ:aG :=
 (oQ [oM 30 3,oM 2 30]
 .ret)
def QL:aD:={ntmps:=31,results:=[.t 2],mode:=.full,body :=
 (oQ [oW 2 (.move (.c .nilp))]
 (oQ [oM 6 0,oW 7 (.nilCheck (.t 6)),oA 8 0 7,oD 9 8,oW 10 (.makeMap),oW 11 (.build [.nsl,.nmap] [(0,1,.t 9),(1,1,.t 10)]),oW 12 (.box 316 2 (.t 11)),oM 3 12]
 (.seq (oQ [oM 13 0,oW 14 (.nilCheck (.t 13)),oA 15 1 14,oD 16 15]
 (.walk (.t 16) 17 18 19 20 0 1 [17,18,19,20,29,28,27,26,25,24,23,5,4,22,21,20] [oX 21 20 0,oX 22 20 1,oW 4 (.alloc 90 2 (.agg [.int .i64 0,.int .i64 0])),oS 2 4 21,oM 5 22] HI))
 HJ)))}
theorem ZN:aB Tryz.prog Tryz.f159 .full=some QL:=by kernel_rfl
def QK:aD:={ntmps:=19,results:=[.t 2,.t 3],mode:=.pure,body :=
 (oQ [oW 2 (.move (oI 0)),oW 3 (.move (oB false))]
 (oQ [oW 4 (.move (oI 0))]
 (.seq (oQ [oM 5 0]
 (.block 0 (.seq (.block 5 (.seq (.block 4 (.seq (.block 3 (.seq (.block 2 (.seq (.block 1 (.seq (.seq (oQ [oW 7 (.arith .eql (.t 5) (oI 5)),oM 6 7]
 (.cond (.t 6) (.exit 1) .skip))
 (.seq (oQ [oW 9 (.arith .eql (.t 5) (oI 3)),oM 8 9]
 (.cond (.t 8) (.exit 2) .skip))
 (.seq (oQ [oW 11 (.arith .eql (.t 5) (oI 4)),oM 10 11]
 (.cond (.t 10) (.exit 3) .skip))
 (.seq (oQ [oW 13 (.arith .eql (.t 5) (oI 1)),oM 12 13]
 (.cond (.t 12) (.exit 4) .skip))
 (oQ [oW 15 (.arith .eql (.t 5) (oI 2)),oM 14 15]
 (.cond (.t 14) (.exit 5) .skip))))))
 (.exit 0)))
 (.seq (oQ [oW 2 (.move (oI 5)),oW 3 (.move (oB true))]
 .ret)
 (.exit 0))))
 (.region [oW 4 (.move (oI 2))])))
 (.seq (oQ [oM 16 4,oW 17 (.arith .or (.t 16) (oI 1)),oM 2 17,oW 3 (.move (oB true))]
 .ret)
 (.exit 0))))
 (.region [oW 4 (.move (oI 2))])))
 (.seq (oQ [oM 18 4,oM 2 18,oW 3 (.move (oB true))]
 .ret)
 (.exit 0)))))
 (oQ [oW 2 (.move (oI 0)),oW 3 (.move (oB false))]
 .ret))))}
theorem ZM:aB Tryz.prog Tryz.f167 .pure=some QK:=by kernel_rfl
def QJ:aD:={ntmps:=16,results:=[.t 2],mode:=.pure,body :=
 (oQ [oW 1 (.box 45 2 (.t 0)),oW 2 (.move (oB false))]
 (oQ [oA 3 0 1,oD 4 3,oW 5 (.arith .geq (.t 4) (oI 0)),oM 6 5,gA 7 0 1 6 true,gD 8 7 6 true,gW 9 (.arith .lss (.t 8) (oI 32)) 6 true,oW 10 (.pick (.t 6) (.t 9) (oB false)),oM 11 10,gA 12 1 1 11 true,gD 13 12 11 true,gW 14 (.arith .geq (.t 13) (oI 0)) 11 true,oW 15 (.pick (.t 11) (.t 14) (oB false)),oM 2 15]
 .ret))}
theorem ZK:aB Tryz.prog Tryz.f168 .pure=some QJ:=by kernel_rfl
def HG:aG :=
 (oQ [oW 8 (.arith .lss (.t 7) (.t 6))]
 (.seq (.cond (.t 8) .skip (.exit 0))
 (.seq (.block 1 (oQ [oM 9 7,oW 10 (.indexAddr 4 (.t 5) (.t 7)),oL 11 4 10,oW 4 (.alloc 176 4 (.agg [.str [],.bool false,.int .i64 0,.str []])),oM 3 9,oS 4 4 11]
 (.seq (.draw [oRA 12 0 4,oRD 13 12,oW 14 (.call (oF 237) [.t 13]),nK 15 (.un .not (.t 14)) .read 1,nK 16 (.move (.t 15)) .read 1,⟨(some 17),.fieldAddr 1 (.t 4),(some (16,false)),.read,1,false⟩,⟨(some 18),.load (some 3) (.t 17),(some (16,false)),.read,1,false⟩,⟨(some 19),.call (oF 238) [.t 18],(some (16,false)),.write,1,false⟩,⟨(some 20),.un .not (.t 19),(some (16,false)),.read,2,false⟩,nK 21 (.pick (.t 16) (oB true) (.t 20)) .read 2,nK 22 (.move (.t 21)) .read 2,⟨(some 23),.move (.t 3),(some (22,false)),.read,2,false⟩,⟨(some 24),.arith .gtr (.t 23) (oI 0),(some (22,false)),.read,2,false⟩,⟨(some 25),.move (.t 24),(some (22,false)),.read,2,false⟩,⟨(some 26),.move (.t 0),(some (25,true)),.read,2,false⟩,⟨(some 27),.move (.t 3),(some (25,true)),.read,2,false⟩,⟨(some 28),.arith .sub (.t 27) (oI 1),(some (25,true)),.read,2,false⟩,⟨(some 29),.indexAddr 4 (.t 26) (.t 28),(some (25,true)),.read,2,false⟩,⟨(some 30),.fieldAddr 0 (.t 29),(some (25,true)),.read,2,false⟩,⟨(some 31),.load none (.t 30),(some (25,true)),.read,2,false⟩,⟨(some 32),.fieldAddr 0 (.t 4),(some (25,true)),.read,2,false⟩,⟨(some 33),.load none (.t 32),(some (25,true)),.read,2,false⟩,⟨(some 34),.arith .geq (.t 31) (.t 33),(some (25,true)),.read,2,false⟩,⟨(some 35),.pick (.t 25) (.t 34) (oB false),(some (22,false)),.read,2,false⟩,nK 36 (.pick (.t 22) (oB true) (.t 35)) .read 2])
 (.cond (.t 36) (oQ [oW 2 (.move (oB false))]
 .ret) .skip))))
 (.region [oW 37 (.arith .add (.t 7) (oI 1)),oM 7 37]))))
def HH:aG :=
 (oQ [oM 38 0,oW 39 (.len 1 (.t 38)),oW 40 (.arith .leq (.t 39) (oI 5)),oM 2 40]
 .ret)
def QI:aD:={ntmps:=41,results:=[.t 2],mode:=.pure,body :=
 (oQ [oW 2 (.move (oB false))]
 (.seq (oQ [oM 5 0,oW 6 (.len 1 (.t 5)),oW 7 (.move (oI 0))]
 (.block 0 (.loop HG)))
 HH))}
theorem ZJ:aB Tryz.prog Tryz.f169 .pure=some QI:=by kernel_rfl
def QH:aD:={ntmps:=9,results:=[.t 2],mode:=.pure,body :=
 (oQ [oW 1 (.box 45 2 (.t 0)),oW 2 (.move (.c .nsl))]
 (oQ [oA 3 0 1,oD 4 3,oA 5 1 1,oD 6 5,oW 7 (.buildSlice 3 1 (.int .i64 0) 2 [(0,.t 4),(1,.t 6)]),oW 8 (.call (oF 239) [.t 7]),oM 2 8]
 .ret))}
theorem ZI:aB Tryz.prog Tryz.f170 .pure=some QH:=by kernel_rfl
def QG:aD:={ntmps:=28,results:=[.t 2],mode:=.pure,body :=
 (oQ [oW 1 (.box 119 5 (.t 0)),oW 2 (.move (.c .nsl))]
 (.seq (.draw [oRA 4 0 1,oRD 5 4,nK 6 (.call (oF 240) [.t 5]) .create 0,oRA 7 1 1,oRD 8 7,oR 9 (.conv .u8 (.t 8)),nK 10 (.buildSlice 5 1 (.int .u8 0) 1 [(0,.t 9)]) .create 0,nK 11 (.append 5 1 1 (.t 6) (.t 10)) .write 2,nK 3 (.move (.t 11)) .read 3])
 (.seq (oQ [oA 12 1 1,oD 13 12,oW 14 (.arith .eql (.t 13) (oI 1))]
 (.cond (.t 14) (oQ [oM 15 3,oA 16 2 1,oD 17 16,oA 18 3 1,oD 19 18,oW 20 (.buildSlice 3 1 (.int .i64 0) 2 [(0,.t 17),(1,.t 19)]),oW 21 (.call (oF 239) [.t 20]),oW 22 (.append 5 1 1 (.t 15) (.t 21)),oM 2 22]
 .ret) .skip))
 (oQ [oM 23 3,oA 24 4 1,oD 25 24,oW 26 (.call (oF 240) [.t 25]),oW 27 (.append 5 1 1 (.t 23) (.t 26)),oM 2 27]
 .ret))))}
theorem ZH:aB Tryz.prog Tryz.f171 .pure=some QG:=by kernel_rfl
def QF:aD:={ntmps:=27,results:=[.t 2],mode:=.pure,body :=
 (oQ [oW 1 (.box 176 4 (.t 0)),oW 2 (.move (.c .nsl))]
 (oQ [oA 4 0 1,oD 5 4,oW 6 (.call (oF 240) [.t 5]),oM 3 6]
 (.seq (oQ [oA 7 1 1,oA 8 0 7,oD 9 8]
 (.cond (.t 9) (.seq (.draw [oRM 10 3,nK 11 (.buildSlice 5 1 (.int .u8 0) 1 [(0,(.c (.int .u8 1)))]) .create 0,nK 12 (.append 5 1 1 (.t 10) (.t 11)) .create 0,oRA 13 1 1,oRA 14 2 13,oRD 15 14,nK 16 (.call (oF 240) [.t 15]) .write 2,nK 17 (.append 5 1 1 (.t 12) (.t 16)) .write 3,nK 2 (.move (.t 17)) .read 4])
 .ret) .skip))
 (.seq (.draw [oRM 18 3,nK 19 (.buildSlice 5 1 (.int .u8 0) 1 [(0,(.c (.int .u8 0)))]) .create 0,nK 20 (.append 5 1 1 (.t 18) (.t 19)) .create 0,oRA 21 1 1,oRA 22 1 21,oRD 23 22,nK 24 (.buildSlice 3 1 (.int .i64 0) 1 [(0,.t 23)]) .create 0,nK 25 (.call (oF 239) [.t 24]) .write 3,nK 26 (.append 5 1 1 (.t 20) (.t 25)) .write 4,nK 2 (.move (.t 26)) .read 5])
 .ret))))}
theorem ZG:aB Tryz.prog Tryz.f172 .pure=some QF:=by kernel_rfl
end Go.Dm.Tc
