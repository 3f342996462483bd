/- A part of the proof. -/
import Derived.Test.YtegofjiikhlokaaGreatDoorTc0
import Derived.Test.YtegofjiikhlokaaGreatDoorMm3
import Derived.Test.YtegofjiikhlokaaGreatDoorRows
import Derived.KernelRfl
namespace Go.Dm.Tc
open Go.Proofs
def Rp:aN :=
 (oQ [oW 14 (.arith .lss (.t 13) (.t 12))]
 (.seq (.cond (.t 14) .skip (.exit 0))
 (.seq (.block 1 (oQ [oW 15 (.indexAddr 1 (.t 11) (.t 13)),oD 16 15,oM 9 16]
 (oQ [oM 17 9,oM 18 1,oW 19 (.arith .neq (.t 17) (.t 18))]
 (.cond (.t 19) (.region [oM 20 7,oM 21 9,oL 22 7 5,oW 23 (.build [.int .i64 0,.int .i64 0,.int .i64 0,.int .i64 0,.int .i64 0,.int .i64 0,.nsl,.nsl] [(0,1,.t 21),(1,7,.t 22)]),oW 24 (.buildSlice 100 8 (.agg [.int .i64 0,.int .i64 0,.int .i64 0,.int .i64 0,.int .i64 0,.int .i64 0,.nsl,.nsl]) 1 [(0,.t 23)]),oW 25 (.append 100 8 96 (.t 20) (.t 24)),oM 7 25]) .skip))))
 (.region [oW 26 (.arith .add (.t 13) (oI 1)),oM 13 26]))))
def K9:aN :=
 (oQ [oM 27 7,oM 6 27]
 .ret)
def KQ:aQ:={ntmps:=28,results:=[.t 6],mode:=.full,body :=
 (oQ [oW 3 (.box 36 6 (.t 0)),oW 5 (.box 44 7 (.t 2)),oW 6 (.move (.c .nsl))]
 (oQ [oW 7 (.move (.c .nsl))]
 (.seq (oQ [oA 10 1 3,oD 11 10,oW 12 (.len 1 (.t 11)),oW 13 (.move (oI 0))]
 (.block 0 (.loop Rp)))
 K9)))}
theorem c103:aE Tryz.prog Tryz.f103 .full=some KQ:=by kernel_rfl
def DX:aQ:={ntmps:=14,results:=[.t 4],mode:=.pure,body :=
 (oQ [oW 4 (.move (oB false))]
 (oQ [oM 8 0,oM 9 1,oW 10 (.call (oF 154) [.t 8,.t 9]),oM 7 10,oX 11 7 0,oX 12 7 1,oM 5 11,oM 6 12]
 (oQ [oM 13 6,oM 4 13]
 .ret)))}
theorem c104:aE Tryz.prog Tryz.f104 .pure=some DX:=by kernel_rfl
def K8:aQ:={ntmps:=73,results:=[(.cell 4 (some 6)),.t 5],mode:=.frz,body :=
 (oQ [oW 2 (.box 36 6 (.t 0)),oW 3 (.box 114 7 (.t 1)),oW 4 (.alloc 36 6 (.agg [.int .i64 0,.nsl,.nsl,.nsl,.nsl,.nsl])),oW 5 (.move (oB false))]
 (oQ [oA 11 4 2,oD 12 11,oW 13 (.call (oF 155) [.t 12]),oA 14 4 2,oS 1 14 13]
 (oQ [oL 16 6 2,oA 17 0 3,oL 18 2 17,oW 19 (.call (oF 89) [.t 16,.t 18]),oM 15 19,oX 20 15 0,oX 21 15 1,oW 6 (.alloc 93 4 (.agg [.int .i64 0,.int .i64 0,.nsl,.int .i64 0])),oS 4 6 20,oM 7 21]
 (oQ [oL 23 6 2,oA 24 0 3,oL 25 2 24,oA 26 2 3,oL 27 2 26,oW 28 (.call (oF 156) [.t 23,.t 25,.t 27]),oM 22 28,oX 29 22 0,oX 30 22 1,oM 8 29,oM 9 30]
 (oQ [oA 31 3 6,oD 32 31,oW 33 (.arith .eql (.t 32) (oI (-1))),oM 10 33]
 (.seq (oQ [oM 34 7,oW 35 (.un .not (.t 34)),oM 36 35,gM 37 9 36 false,oW 38 (.pick (.t 36) (oB true) (.t 37)),oM 39 38,gA 40 5 3 39 false,gD 41 40 39 false,gA 42 3 6 39 false,gD 43 42 39 false,gW 44 (.arith .eql (.t 41) (.t 43)) 39 false,gM 45 44 39 false,gM 46 10 45 true,gW 47 (.un .not (.t 46)) 45 true,gW 48 (.pick (.t 45) (.t 47) (oB false)) 39 false,oW 49 (.pick (.t 39) (oB true) (.t 48))]
 (.cond (.t 49) (oQ [oL 50 6 2,oS 6 4 50,oW 5 (.move (oB false))]
 .ret) .skip))
 (oQ [oM 51 10,oW 52 (.un .not (.t 51)),oM 53 52,gL 54 6 2 53 true,gA 55 0 3 53 true,gL 56 2 55 53 true,gA 57 4 3 53 true,gD 58 57 53 true,gW 59 (.call (oF 90) [.t 54,.t 56,.t 58]) 53 true,gW 60 (.un .not (.t 59)) 53 true,oW 61 (.pick (.t 53) (.t 60) (oB false)),oA 62 6 3,oS 1 62 61]
 (oQ [oA 63 4 2,oD 64 63,oM 65 8,oL 66 7 3,oW 67 (.buildSlice 114 7 (.agg [.int .i64 0,.int .i64 0,.int .i64 0,.int .i64 0,.nsl,.int .i64 0,.bool false]) 1 [(0,.t 66)]),oW 68 (.call (oF 157) [.t 64,.t 65,.t 67]),oA 69 4 2,oS 1 69 68]
 (.seq (.draw [⟨(some 70),.load (some 6) (.t 2),none,.read,0,true⟩,oRA 71 6 3,oRD 72 71,⟨none,.store 6 (.t 4) (.t 70),none,.create,0,false⟩,nK 5 (.move (.t 72)) .read 1])
 .ret)))))))))}
theorem c105:aE Tryz.prog Tryz.f105 .frz=some K8:=by kernel_rfl
def DW:aQ:={ntmps:=10,results:=[(.cell 2 (some 7))],mode:=.pure,body :=
 (oQ [oW 1 (.box 114 7 (.t 0)),oW 2 (.alloc 44 7 (.agg [.int .i64 0,.int .i64 0,.int .i64 0,.int .i64 0,.int .i64 0,.nsl,.nsl]))]
 (oQ [oA 3 0 1,oL 4 2 3,oA 5 2 1,oL 6 2 5,oA 7 4 1,oD 8 7,oW 9 (.build [.int .i64 0,.int .i64 0,.int .i64 0,.int .i64 0,.int .i64 0,.nsl,.nsl] [(0,1,oI 3),(1,2,.t 4),(3,2,.t 6),(5,1,.t 8)]),oS 7 2 9]
 .ret))}
theorem c106:aE Tryz.prog Tryz.f106 .pure=some DW:=by kernel_rfl
def Wd:aQ:={ntmps:=44,results:=[(.cell 6 (some 6)),.t 7],mode:=.frz,body :=
 (oQ [oW 3 (.box 36 6 (.t 0)),oW 4 (.box 40 2 (.t 1)),oW 6 (.alloc 36 6 (.agg [.int .i64 0,.nsl,.nsl,.nsl,.nsl,.nsl])),oW 7 (.move (oB false))]
 (oQ [oL 10 6 3,oW 11 (.call (oF 151) [.t 10]),oS 6 3 11]
 (oQ [oL 13 6 3,oL 14 2 4,oW 15 (.call (oF 141) [.t 13,.t 14]),oM 12 15,oX 16 12 0,oX 17 12 1,oM 8 16,oM 9 17]
 (.seq (oQ [oM 18 9,oW 19 (.un .not (.t 18)),oM 20 19,gA 21 2 3 20 false,gD 22 21 20 false,gM 23 8 20 false,gW 24 (.indexAddr 4 (.t 22) (.t 23)) 20 false,gA 25 3 24 20 false,gD 26 25 20 false,gM 27 2 20 false,gW 28 (.arith .neq (.t 26) (.t 27)) 20 false,oW 29 (.pick (.t 20) (oB true) (.t 28))]
 (.cond (.t 29) (oQ [oL 30 6 3,oS 6 6 30,oW 7 (.move (oB false))]
 .ret) .skip))
 (oQ [oA 31 2 3,oD 32 31,oM 33 8,oM 34 8,oW 35 (.arith .add (.t 34) (oI 1)),oW 36 (.call (oF 158) [.t 32,.t 33,.t 35]),oA 37 2 3,oS 1 37 36]
 (oQ [oA 38 4 3,oD 39 38,oW 40 (.makeFunc 160 [.t 4]),oW 41 (.call (oF 159) [.t 39,.t 40]),oA 42 4 3,oS 1 42 41]
 (oQ [oL 43 6 3,oS 6 6 43,oW 7 (.move (oB true))]
 .ret)))))))}
theorem c107:aE Tryz.prog Tryz.f107 .frz=some Wd:=by kernel_rfl
def K7:aQ:={ntmps:=32,results:=[(.cell 4 (some 6)),.t 5],mode:=.frz,body :=
 (oQ [oW 2 (.box 36 6 (.t 0)),oW 3 (.box 114 7 (.t 1)),oW 4 (.alloc 36 6 (.agg [.int .i64 0,.nsl,.nsl,.nsl,.nsl,.nsl])),oW 5 (.move (.c .nsl))]
 (oQ [oL 10 6 2,oA 11 0 3,oL 12 2 11,oW 13 (.call (oF 89) [.t 10,.t 12]),oM 9 13,oX 14 9 0,oX 15 9 1,oW 6 (.alloc 93 4 (.agg [.int .i64 0,.int .i64 0,.nsl,.int .i64 0])),oS 4 6 14,oM 7 15]
 (oQ [oL 17 6 2,oL 18 7 3,oW 19 (.call (oF 105) [.t 17,.t 18]),oM 16 19,oX 20 16 0,oX 21 16 1,oS 6 2 20,oM 8 21]
 (.seq (oQ [oM 22 8,oW 23 (.un .not (.t 22))]
 (.cond (.t 23) (oQ [oL 24 6 2,oS 6 4 24,oW 5 (.move (.c .nsl))]
 .ret) .skip))
 (.seq (.draw [oRL 25 6 2,oRA 26 3 6,oRD 27 26,⟨(some 28),.load (some 7) (.t 3),none,.read,0,true⟩,nK 29 (.call (oF 106) [.t 28]) .create 0,⟨none,.store 6 (.t 4) (.t 25),none,.create,0,false⟩,nK 30 (.build [.int .i64 0,.int .i64 0,.int .i64 0,.int .i64 0,.int .i64 0,.int .i64 0,.nsl,.nsl] [(0,1,.t 27),(1,7,.t 29)]) .read 1,nK 31 (.buildSlice 100 8 (.agg [.int .i64 0,.int .i64 0,.int .i64 0,.int .i64 0,.int .i64 0,.int .i64 0,.nsl,.nsl]) 1 [(0,.t 30)]) .create 0,nK 5 (.move (.t 31)) .read 3])
 .ret)))))}
theorem c108:aE Tryz.prog Tryz.f108 .frz=some K7:=by kernel_rfl
def Ro:aN :=
 (oQ [oW 38 (.arith .lss (.t 37) (.t 36))]
 (.seq (.cond (.t 38) .skip (.exit 0))
 (.seq (.block 1 (oQ [oW 39 (.indexAddr 7 (.t 35) (.t 37)),oL 40 7 39,oW 16 (.alloc 114 7 (.agg [.int .i64 0,.int .i64 0,.int .i64 0,.int .i64 0,.nsl,.int .i64 0,.bool false])),oS 7 16 40]
 (.draw [oRA 42 3 10,oRD 43 42,oRL 44 7 16,nK 45 (.call (oF 106) [.t 44]) .create 0,oRM 41 14,nK 46 (.build [.int .i64 0,.int .i64 0,.int .i64 0,.int .i64 0,.int .i64 0,.int .i64 0,.nsl,.nsl] [(0,1,.t 43),(1,7,.t 45)]) .read 1,nK 47 (.buildSlice 100 8 (.agg [.int .i64 0,.int .i64 0,.int .i64 0,.int .i64 0,.int .i64 0,.int .i64 0,.nsl,.nsl]) 1 [(0,.t 46)]) .create 0,nK 48 (.append 100 8 96 (.t 41) (.t 47)) .write 2,nK 14 (.move (.t 48)) .read 3])))
 (.region [oW 49 (.arith .add (.t 37) (oI 1)),oM 37 49]))))
def Iz:aN :=
 (.seq (.draw [oRL 50 6 4,oRA 52 3 10,oRD 53 52,oRL 54 2 5,oRL 55 2 6,oRM 51 14,oR 56 (.build [.int .i64 0,.int .i64 0,.int .i64 0,.int .i64 0,.int .i64 0,.nsl,.nsl] [(0,1,oI 4),(1,2,.t 54),(3,2,.t 55)]),oR 57 (.build [.int .i64 0,.int .i64 0,.int .i64 0,.int .i64 0,.int .i64 0,.int .i64 0,.nsl,.nsl] [(0,1,.t 53),(1,7,.t 56)]),nK 58 (.buildSlice 100 8 (.agg [.int .i64 0,.int .i64 0,.int .i64 0,.int .i64 0,.int .i64 0,.int .i64 0,.nsl,.nsl]) 1 [(0,.t 57)]) .create 0,nK 59 (.append 100 8 96 (.t 51) (.t 58)) .create 0,⟨none,.store 6 (.t 8) (.t 50),none,.write,2,false⟩,nK 9 (.move (.t 59)) .read 3])
 .ret)
def K6:aQ:={ntmps:=60,results:=[(.cell 8 (some 6)),.t 9],mode:=.frz,body :=
 (oQ [oW 4 (.box 36 6 (.t 0)),oW 5 (.box 40 2 (.t 1)),oW 6 (.box 40 2 (.t 2)),oW 8 (.alloc 36 6 (.agg [.int .i64 0,.nsl,.nsl,.nsl,.nsl,.nsl])),oW 9 (.move (.c .nsl))]
 (oQ [oL 18 6 4,oL 19 2 5,oW 20 (.call (oF 89) [.t 18,.t 19]),oM 17 20,oX 21 17 0,oX 22 17 1,oW 10 (.alloc 93 4 (.agg [.int .i64 0,.int .i64 0,.nsl,.int .i64 0])),oS 4 10 21,oM 11 22]
 (oQ [oL 24 6 4,oL 25 2 5,oL 26 2 6,oM 27 3,oW 28 (.call (oF 161) [.t 24,.t 25,.t 26,.t 27]),oM 23 28,oX 29 23 0,oX 30 23 1,oX 31 23 2,oS 6 4 29,oM 12 30,oM 13 31]
 (.seq (oQ [oM 32 13,oW 33 (.un .not (.t 32))]
 (.cond (.t 33) (oQ [oL 34 6 4,oS 6 8 34,oW 9 (.move (.c .nsl))]
 .ret) .skip))
 (oQ [oW 14 (.move (.c .nsl))]
 (.seq (oQ [oM 35 12,oW 36 (.len 1 (.t 35)),oW 37 (.move (oI 0))]
 (.block 0 (.loop Ro)))
 Iz))))))}
theorem c109:aE Tryz.prog Tryz.f109 .frz=some K6:=by kernel_rfl
def Rm:aN :=
 (oQ [oW 15 (.arith .lss (.t 14) (.t 13))]
 (.seq (.cond (.t 15) .skip (.exit 0))
 (.seq (.block 1 (oQ [oW 16 (.indexAddr 7 (.t 12) (.t 14)),oL 17 7 16,oW 9 (.alloc 114 7 (.agg [.int .i64 0,.int .i64 0,.int .i64 0,.int .i64 0,.nsl,.int .i64 0,.bool false])),oS 7 9 17]
 (oQ [oA 18 5 9,oD 19 18,oW 20 (.arith .neq (.t 19) (oI (-1))),oM 21 20,gA 22 4 9 21 true,gD 23 22 21 true,gM 24 2 21 true,gW 25 (.call (oF 162) [.t 23,.t 24]) 21 true,oW 26 (.pick (.t 21) (.t 25) (oB false))]
 (.cond (.t 26) (.region [oM 27 7,oA 28 5 9,oD 29 28,oW 30 (.buildSlice 3 1 (.int .i64 0) 1 [(0,.t 29)]),oW 31 (.append 3 1 8 (.t 27) (.t 30)),oM 7 31]) .skip))))
 (.region [oW 32 (.arith .add (.t 14) (oI 1)),oM 14 32]))))
def Rn:aN :=
 (oQ [oM 33 7,oW 34 (.call (oF 163) [.t 33]),oM 6 34]
 .ret)
def DU:aQ:={ntmps:=35,results:=[.t 6],mode:=.pure,body :=
 (oQ [oW 3 (.box 36 6 (.t 0)),oW 4 (.box 40 2 (.t 1)),oW 6 (.move (.c .nsl))]
 (oQ [oW 7 (.move (.c .nsl))]
 (.seq (oQ [oL 10 6 3,oL 11 2 4,oW 12 (.call (oF 142) [.t 10,.t 11]),oW 13 (.len 1 (.t 12)),oW 14 (.move (oI 0))]
 (.block 0 (.loop Rm)))
 Rn)))}
theorem c110:aE Tryz.prog Tryz.f110 .pure=some DU:=by kernel_rfl
def Rk:aN :=
 (oQ [oW 12 (.arith .lss (.t 11) (.t 10))]
 (.seq (.cond (.t 12) .skip (.exit 0))
 (.seq (.block 1 (oQ [oW 13 (.indexAddr 3 (.t 9) (.t 11)),oL 14 3 13,oW 7 (.alloc 98 3 (.agg [.int .i64 0,.int .i64 0,.nsl])),oS 3 7 14]
 (oQ [oA 15 2 7,oD 16 15,oM 17 1,oW 18 (.call (oF 162) [.t 16,.t 17])]
 (.cond (.t 18) (.region [oM 19 5,oA 20 0 7,oA 21 0 20,oD 22 21,oW 23 (.buildSlice 3 1 (.int .i64 0) 1 [(0,.t 22)]),oW 24 (.append 3 1 8 (.t 19) (.t 23)),oM 5 24]) .skip))))
 (.region [oW 25 (.arith .add (.t 11) (oI 1)),oM 11 25]))))
def Rl:aN :=
 (oQ [oM 26 5,oW 27 (.call (oF 163) [.t 26]),oM 4 27]
 .ret)
def DT:aQ:={ntmps:=28,results:=[.t 4],mode:=.pure,body :=
 (oQ [oW 2 (.box 36 6 (.t 0)),oW 4 (.move (.c .nsl))]
 (oQ [oW 5 (.move (.c .nsl))]
 (.seq (oQ [oA 8 5 2,oD 9 8,oW 10 (.len 1 (.t 9)),oW 11 (.move (oI 0))]
 (.block 0 (.loop Rk)))
 Rl)))}
theorem c111:aE Tryz.prog Tryz.f111 .pure=some DT:=by kernel_rfl
def K0:aQ:={ntmps:=11,results:=[],mode:=.full,body :=
 (oQ [oM 3 0,oW 4 (.len 1 (.t 3)),oM 2 4]
 (.region [oM 5 0,oM 6 2,oM 7 2,oW 8 (.conv .u64 (.t 7)),oW 9 (.call (oF 165) [.t 8]),oW 10 (.call (oF 164) [.t 5,oI 0,.t 6,.t 9])]))}
theorem c113:aE Tryz.prog Tryz.f113 .full=some K0:=by kernel_rfl
def Rj:aN :=
 (.seq (oQ [oM 29 5,oM 30 4,oW 31 (.len 1 (.t 30)),oW 32 (.arith .lss (.t 29) (.t 31))]
 (.cond (.t 32) .skip (.exit 2)))
 (.seq (.block 3 (.seq (.draw [oRM 35 4,oRM 36 5,oR 37 (.indexAddr 1 (.t 35) (.t 36)),oRD 38 37,oRM 39 4,oRM 40 5,oR 41 (.arith .sub (.t 40) (oI 1)),oR 42 (.indexAddr 1 (.t 39) (.t 41)),oRD 43 42,oR 44 (.arith .neq (.t 38) (.t 43))])
 (.cond (.t 44) (oQ [oM 45 0,oM 46 3,oM 47 4,oM 48 5,oW 49 (.indexAddr 1 (.t 47) (.t 48)),oD 50 49,oW 51 (.indexAddr 1 (.t 45) (.t 46)),oS 1 51 50]
 (.region [oM 52 3,oW 53 (.arith .add (.t 52) (oI 1)),oM 3 53])) .skip)))
 (.region [oM 33 5,oW 34 (.arith .add (.t 33) (oI 1)),oM 5 34])))
def KP:aN :=
 (oQ [oM 54 0,oM 55 3,oW 56 (.sliceSl 1 (.t 54) (some (.t 55)) none),oZ (.clear 1 (.int .i64 0) (.t 56))]
 (oQ [oM 57 0,oM 58 3,oW 59 (.sliceSl 1 (.t 57) none (some (.t 58))),oM 2 59]
 .ret))
def KO:aN :=
 (.region [oM 14 3,oW 15 (.arith .add (.t 14) (oI 1)),oM 3 15])
def Ri:aN :=
 (.seq (oQ [oM 10 3,oM 11 0,oW 12 (.len 1 (.t 11)),oW 13 (.arith .lss (.t 10) (.t 12))]
 (.cond (.t 13) .skip (.exit 0)))
 (.seq (.block 1 (.seq (.draw [oRM 16 0,oRM 17 3,oR 18 (.indexAddr 1 (.t 16) (.t 17)),oRD 19 18,oRM 20 0,oRM 21 3,oR 22 (.arith .sub (.t 21) (oI 1)),oR 23 (.indexAddr 1 (.t 20) (.t 22)),oRD 24 23,oR 25 (.arith .eql (.t 19) (.t 24))])
 (.cond (.t 25) (oQ [oM 26 0,oM 27 3,oW 28 (.sliceSl 1 (.t 26) (some (.t 27)) none),oM 4 28]
 (.seq (oQ [oW 5 (.move (oI 1))]
 (.block 2 (.loop Rj)))
 KP)) .skip)))
 KO))
def J8:aN :=
 (oQ [oM 60 0,oM 2 60]
 .ret)
def J9:aQ:={ntmps:=61,results:=[.t 2],mode:=.full,body :=
 (oQ [oW 2 (.move (.c .nsl))]
 (.seq (oQ [oM 6 0,oW 7 (.len 1 (.t 6)),oW 8 (.arith .lss (.t 7) (oI 2))]
 (.cond (.t 8) (oQ [oM 9 0,oM 2 9]
 .ret) .skip))
 (.seq (oQ [oW 3 (.move (oI 1))]
 (.block 0 (.loop Ri)))
 J8)))}
theorem c114:aE Tryz.prog Tryz.f114 .full=some J9:=by kernel_rfl
def Rh:aN :=
 (oQ [oW 14 (.arith .lss (.t 13) (.t 12))]
 (.seq (.cond (.t 14) .skip (.exit 0))
 (.seq (.block 1 (oQ [oM 15 13,oM 5 15]
 (.seq (.draw [oRM 16 0,oRM 17 5,oR 18 (.indexAddr 5 (.t 16) (.t 17)),oRL 19 5 18,oRM 20 1,oRM 21 5,oR 22 (.indexAddr 5 (.t 20) (.t 21)),oRL 23 5 22,oR 24 (.eqa true [2,1,1,1,2] (.t 19) (.t 23))])
 (.cond (.t 24) (oQ [oW 4 (.move (oB false))]
 .ret) .skip))))
 (.region [oW 25 (.arith .add (.t 13) (oI 1)),oM 13 25]))))
def J6:aN :=
 (oQ [oW 4 (.move (oB true))]
 .ret)
def J7:aQ:={ntmps:=26,results:=[.t 4],mode:=.pure,body :=
 (oQ [oW 4 (.move (oB false))]
 (.seq (oQ [oM 6 0,oW 7 (.len 1 (.t 6)),oM 8 1,oW 9 (.len 1 (.t 8)),oW 10 (.arith .neq (.t 7) (.t 9))]
 (.cond (.t 10) (oQ [oW 4 (.move (oB false))]
 .ret) .skip))
 (.seq (oQ [oM 11 0,oW 12 (.len 1 (.t 11)),oW 13 (.move (oI 0))]
 (.block 0 (.loop Rh)))
 J6)))}
theorem c115:aE Tryz.prog Tryz.f115 .pure=some J7:=by kernel_rfl
def t116:aQ:={ntmps:=19,results:=[.t 2,.t 3],mode:=.full,body :=
 (oQ [oW 2 (.move (oI 0)),oW 3 (.move (oB false))]
 (oQ [oW 4 (.move (oI 0))]
 (.seq (oQ [oM 5 0]
 (.block 0 (.seq (.block 5 (.seq (.block 4 (.seq (.block 3 (.seq (.block 2 (.seq (.block 1 (.seq (.seq (oQ [oW 7 (.arith .eql (.t 5) (oI 5)),oM 6 7]
 (.cond (.t 6) (.exit 1) .skip))
 (.seq (oQ [oW 9 (.arith .eql (.t 5) (oI 3)),oM 8 9]
 (.cond (.t 8) (.exit 2) .skip))
 (.seq (oQ [oW 11 (.arith .eql (.t 5) (oI 4)),oM 10 11]
 (.cond (.t 10) (.exit 3) .skip))
 (.seq (oQ [oW 13 (.arith .eql (.t 5) (oI 1)),oM 12 13]
 (.cond (.t 12) (.exit 4) .skip))
 (oQ [oW 15 (.arith .eql (.t 5) (oI 2)),oM 14 15]
 (.cond (.t 14) (.exit 5) .skip))))))
 (.exit 0)))
 (.seq (oQ [oW 2 (.move (oI 5)),oW 3 (.move (oB true))]
 .ret)
 (.exit 0))))
 (.region [oW 4 (.move (oI 2))])))
 (.seq (oQ [oM 16 4,oW 17 (.arith .or (.t 16) (oI 1)),oM 2 17,oW 3 (.move (oB true))]
 .ret)
 (.exit 0))))
 (.region [oW 4 (.move (oI 2))])))
 (.seq (oQ [oM 18 4,oM 2 18,oW 3 (.move (oB true))]
 .ret)
 (.exit 0)))))
 (oQ [oW 2 (.move (oI 0)),oW 3 (.move (oB false))]
 .ret))))}
theorem c116:aE Tryz.prog Tryz.f116 .full=some t116:=by kernel_rfl
def t117:aQ:={ntmps:=16,results:=[.t 2],mode:=.full,body :=
 (oQ [oW 1 (.box 40 2 (.t 0)),oW 2 (.move (oB false))]
 (oQ [oA 3 0 1,oD 4 3,oW 5 (.arith .geq (.t 4) (oI 0)),oM 6 5,gA 7 0 1 6 true,gD 8 7 6 true,gW 9 (.arith .lss (.t 8) (oI 32)) 6 true,oW 10 (.pick (.t 6) (.t 9) (oB false)),oM 11 10,gA 12 1 1 11 true,gD 13 12 11 true,gW 14 (.arith .geq (.t 13) (oI 0)) 11 true,oW 15 (.pick (.t 11) (.t 14) (oB false)),oM 2 15]
 .ret))}
theorem c117:aE Tryz.prog Tryz.f117 .full=some t117:=by kernel_rfl
def YW:aN :=
 (oQ [oW 8 (.arith .lss (.t 7) (.t 6))]
 (.seq (.cond (.t 8) .skip (.exit 0))
 (.seq (.block 1 (oQ [oM 9 7,oW 10 (.indexAddr 4 (.t 5) (.t 7)),oL 11 4 10,oW 4 (.alloc 108 4 (.agg [.str [],.bool false,.int .i64 0,.str []])),oM 3 9,oS 4 4 11]
 (.seq (.draw [oRA 12 0 4,oRD 13 12,oW 14 (.call (oF 166) [.t 13]),nK 15 (.un .not (.t 14)) .read 1,nK 16 (.move (.t 15)) .read 1,⟨(some 17),.fieldAddr 1 (.t 4),(some (16,false)),.read,1,false⟩,⟨(some 18),.load (some 3) (.t 17),(some (16,false)),.read,1,false⟩,⟨(some 19),.call (oF 167) [.t 18],(some (16,false)),.write,1,false⟩,⟨(some 20),.un .not (.t 19),(some (16,false)),.read,2,false⟩,nK 21 (.pick (.t 16) (oB true) (.t 20)) .read 2,nK 22 (.move (.t 21)) .read 2,⟨(some 23),.move (.t 3),(some (22,false)),.read,2,false⟩,⟨(some 24),.arith .gtr (.t 23) (oI 0),(some (22,false)),.read,2,false⟩,⟨(some 25),.move (.t 24),(some (22,false)),.read,2,false⟩,⟨(some 26),.move (.t 0),(some (25,true)),.read,2,false⟩,⟨(some 27),.move (.t 3),(some (25,true)),.read,2,false⟩,⟨(some 28),.arith .sub (.t 27) (oI 1),(some (25,true)),.read,2,false⟩,⟨(some 29),.indexAddr 4 (.t 26) (.t 28),(some (25,true)),.read,2,false⟩,⟨(some 30),.fieldAddr 0 (.t 29),(some (25,true)),.read,2,false⟩,⟨(some 31),.load none (.t 30),(some (25,true)),.read,2,false⟩,⟨(some 32),.fieldAddr 0 (.t 4),(some (25,true)),.read,2,false⟩,⟨(some 33),.load none (.t 32),(some (25,true)),.read,2,false⟩,⟨(some 34),.arith .geq (.t 31) (.t 33),(some (25,true)),.read,2,false⟩,⟨(some 35),.pick (.t 25) (.t 34) (oB false),(some (22,false)),.read,2,false⟩,nK 36 (.pick (.t 22) (oB true) (.t 35)) .read 2])
 (.cond (.t 36) (oQ [oW 2 (.move (oB false))]
 .ret) .skip))))
 (.region [oW 37 (.arith .add (.t 7) (oI 1)),oM 7 37]))))
def YX:aN :=
 (oQ [oM 38 0,oW 39 (.len 1 (.t 38)),oW 40 (.arith .leq (.t 39) (oI 5)),oM 2 40]
 .ret)
def t118:aQ:={ntmps:=41,results:=[.t 2],mode:=.pure,body :=
 (oQ [oW 2 (.move (oB false))]
 (.seq (oQ [oM 5 0,oW 6 (.len 1 (.t 5)),oW 7 (.move (oI 0))]
 (.block 0 (.loop YW)))
 YX))}
theorem c118:aE Tryz.prog Tryz.f118 .pure=some t118:=by kernel_rfl
def t119:aQ:={ntmps:=9,results:=[.t 2],mode:=.full,body :=
 (oQ [oW 1 (.box 40 2 (.t 0)),oW 2 (.move (.c .nsl))]
 (oQ [oA 3 0 1,oD 4 3,oA 5 1 1,oD 6 5,oW 7 (.buildSlice 3 1 (.int .i64 0) 2 [(0,.t 4),(1,.t 6)]),oW 8 (.call (oF 168) [.t 7]),oM 2 8]
 .ret))}
theorem c119:aE Tryz.prog Tryz.f119 .full=some t119:=by kernel_rfl
def t120:aQ:={ntmps:=28,results:=[.t 2],mode:=.full,body :=
 (oQ [oW 1 (.box 96 5 (.t 0)),oW 2 (.move (.c .nsl))]
 (.seq (.draw [oRA 4 0 1,oRD 5 4,nK 6 (.call (oF 169) [.t 5]) .create 0,oRA 7 1 1,oRD 8 7,oR 9 (.conv .u8 (.t 8)),nK 10 (.buildSlice 5 1 (.int .u8 0) 1 [(0,.t 9)]) .create 0,nK 11 (.append 5 1 1 (.t 6) (.t 10)) .write 2,nK 3 (.move (.t 11)) .read 3])
 (.seq (oQ [oA 12 1 1,oD 13 12,oW 14 (.arith .eql (.t 13) (oI 1))]
 (.cond (.t 14) (oQ [oM 15 3,oA 16 2 1,oD 17 16,oA 18 3 1,oD 19 18,oW 20 (.buildSlice 3 1 (.int .i64 0) 2 [(0,.t 17),(1,.t 19)]),oW 21 (.call (oF 168) [.t 20]),oW 22 (.append 5 1 1 (.t 15) (.t 21)),oM 2 22]
 .ret) .skip))
 (oQ [oM 23 3,oA 24 4 1,oD 25 24,oW 26 (.call (oF 169) [.t 25]),oW 27 (.append 5 1 1 (.t 23) (.t 26)),oM 2 27]
 .ret))))}
theorem c120:aE Tryz.prog Tryz.f120 .full=some t120:=by kernel_rfl
def t121:aQ:={ntmps:=27,results:=[.t 2],mode:=.full,body :=
 (oQ [oW 1 (.box 108 4 (.t 0)),oW 2 (.move (.c .nsl))]
 (oQ [oA 4 0 1,oD 5 4,oW 6 (.call (oF 169) [.t 5]),oM 3 6]
 (.seq (oQ [oA 7 1 1,oA 8 0 7,oD 9 8]
 (.cond (.t 9) (.seq (.draw [oRM 10 3,nK 11 (.buildSlice 5 1 (.int .u8 0) 1 [(0,(.c (.int .u8 1)))]) .create 0,nK 12 (.append 5 1 1 (.t 10) (.t 11)) .create 0,oRA 13 1 1,oRA 14 2 13,oRD 15 14,nK 16 (.call (oF 169) [.t 15]) .write 2,nK 17 (.append 5 1 1 (.t 12) (.t 16)) .write 3,nK 2 (.move (.t 17)) .read 4])
 .ret) .skip))
 (.seq (.draw [oRM 18 3,nK 19 (.buildSlice 5 1 (.int .u8 0) 1 [(0,(.c (.int .u8 0)))]) .create 0,nK 20 (.append 5 1 1 (.t 18) (.t 19)) .create 0,oRA 21 1 1,oRA 22 1 21,oRD 23 22,nK 24 (.buildSlice 3 1 (.int .i64 0) 1 [(0,.t 23)]) .create 0,nK 25 (.call (oF 168) [.t 24]) .write 3,nK 26 (.append 5 1 1 (.t 20) (.t 25)) .write 4,nK 2 (.move (.t 26)) .read 5])
 .ret))))}
theorem c121:aE Tryz.prog Tryz.f121 .full=some t121:=by kernel_rfl
def Rf:aN :=
 (oQ [oW 45 (.arith .lss (.t 44) (.t 43))]
 (.seq (.cond (.t 45) .skip (.exit 0))
 (.seq (.block 1 (oQ [oW 46 (.indexAddr 7 (.t 42) (.t 44)),oL 47 7 46,oW 11 (.alloc 114 7 (.agg [.int .i64 0,.int .i64 0,.int .i64 0,.int .i64 0,.nsl,.int .i64 0,.bool false])),oS 7 11 47]
 (oQ [oA 48 0 11,oL 49 2 48,oL 50 2 4,oW 51 (.eqa true [1,1] (.t 49) (.t 50))]
 (.cond (.t 51) (.region [oM 52 9,oL 53 7 11,oW 54 (.buildSlice 114 7 (.agg [.int .i64 0,.int .i64 0,.int .i64 0,.int .i64 0,.nsl,.int .i64 0,.bool false]) 1 [(0,.t 53)]),oW 55 (.append 114 7 72 (.t 52) (.t 54)),oM 9 55]) .skip))))
 (.region [oW 56 (.arith .add (.t 44) (oI 1)),oM 44 56]))))
def Rg:aN :=
 (oQ [oM 57 9,oA 58 4 3,oS 1 58 57]
 (oQ [oL 59 6 3,oS 6 6 59,oW 7 (.move (oB true))]
 .ret))
def Mv:aQ:={ntmps:=60,results:=[(.cell 6 (some 6)),.t 7],mode:=.frz,body :=
 (oQ [oW 3 (.box 36 6 (.t 0)),oW 4 (.box 40 2 (.t 1)),oW 6 (.alloc 36 6 (.agg [.int .i64 0,.nsl,.nsl,.nsl,.nsl,.nsl])),oW 7 (.move (oB false))]
 (oQ [oL 12 6 3,oL 13 2 4,oW 14 (.call (oF 127) [.t 12,.t 13]),oM 8 14]
 (.seq (oQ [oM 15 8,oW 16 (.arith .lss (.t 15) (oI 0)),oM 17 16,gA 18 2 3 17 false,gD 19 18 17 false,gM 20 8 17 false,gW 21 (.indexAddr 4 (.t 19) (.t 20)) 17 false,gA 22 3 21 17 false,gD 23 22 17 false,gM 24 2 17 false,gW 25 (.arith .neq (.t 23) (.t 24)) 17 false,oW 26 (.pick (.t 17) (oB true) (.t 25))]
 (.cond (.t 26) (oQ [oL 27 6 3,oS 6 6 27,oW 7 (.move (oB false))]
 .ret) .skip))
 (.seq (.draw [oRA 29 2 3,oRD 30 29,oRM 31 8,oR 32 (.sliceSl 4 (.t 30) none (some (.t 31))),nK 28 (.buildSlice 93 4 (.agg [.int .i64 0,.int .i64 0,.nsl,.int .i64 0]) 0 []) .create 0,nK 33 (.append 93 4 48 (.t 28) (.t 32)) .create 0,oRA 34 2 3,oRD 35 34,oRM 36 8,oR 37 (.arith .add (.t 36) (oI 1)),oR 38 (.sliceSl 4 (.t 35) (some (.t 37)) none),nK 39 (.append 93 4 48 (.t 33) (.t 38)) .write 2,nK 40 (.fieldAddr 2 (.t 3)) .read 3,⟨none,.store 1 (.t 40) (.t 39),none,.write,3,false⟩])
 (oQ [oW 9 (.move (.c .nsl))]
 (.seq (oQ [oA 41 4 3,oD 42 41,oW 43 (.len 1 (.t 42)),oW 44 (.move (oI 0))]
 (.block 0 (.loop Rf)))
 Rg))))))}
theorem c126:aE Tryz.prog Tryz.f126 .frz=some Mv:=by kernel_rfl
def Re:aN :=
 (oQ [oW 11 (.arith .lss (.t 10) (.t 9))]
 (.seq (.cond (.t 11) .skip (.exit 0))
 (.seq (.block 1 (oQ [oM 12 10,oW 13 (.indexAddr 4 (.t 8) (.t 10)),oL 14 4 13,oW 6 (.alloc 93 4 (.agg [.int .i64 0,.int .i64 0,.nsl,.int .i64 0])),oM 5 12,oS 4 6 14]
 (oQ [oA 15 0 6,oL 16 2 15,oL 17 2 3,oW 18 (.eqa false [1,1] (.t 16) (.t 17))]
 (.cond (.t 18) (oQ [oM 19 5,oM 4 19]
 .ret) .skip))))
 (.region [oW 20 (.arith .add (.t 10) (oI 1)),oM 10 20]))))
def J5:aN :=
 (oQ [oW 4 (.move (oI (-1)))]
 .ret)
def Wc:aQ:={ntmps:=21,results:=[.t 4],mode:=.pure,body :=
 (oQ [oW 2 (.box 36 6 (.t 0)),oW 3 (.box 40 2 (.t 1)),oW 4 (.move (oI 0))]
 (.seq (oQ [oA 7 2 2,oD 8 7,oW 9 (.len 1 (.t 8)),oW 10 (.move (oI 0))]
 (.block 0 (.loop Re)))
 J5))}
theorem c127:aE Tryz.prog Tryz.f127 .pure=some Wc:=by kernel_rfl
def YS:aN :=
 (oQ [oW 19 (.arith .lss (.t 18) (.t 17))]
 (.seq (.cond (.t 19) .skip (.exit 2))
 (.seq (.block 3 (oQ [oW 20 (.indexAddr 4 (.t 16) (.t 18)),oL 21 4 20,oW 9 (.alloc 108 4 (.agg [.str [],.bool false,.int .i64 0,.str []])),oS 4 9 21]
 (.region [oM 22 7,oM 23 22,gA 24 0 9 23 false,gD 25 24 23 false,gA 26 0 6 23 false,gD 27 26 23 false,gW 28 (.arith .eql (.t 25) (.t 27)) 23 false,gM 29 28 23 false,gL 30 5 6 29 true,gA 31 1 9 29 true,gL 32 3 31 29 true,gW 33 (.call (oF 173) [.t 30,.t 32]) 29 true,gW 34 (.pick (.t 29) (.t 33) (oB false)) 23 false,oW 35 (.pick (.t 23) (oB true) (.t 34)),oM 7 35])))
 (.region [oW 36 (.arith .add (.t 18) (oI 1)),oM 18 36]))))
def YV:aN :=
 (oQ [oM 37 7,oW 38 (.un .not (.t 37))]
 (.cond (.t 38) (oQ [oW 4 (.move (oB false))]
 .ret) .skip))
def YU:aN :=
 (.region [oW 39 (.arith .add (.t 12) (oI 1)),oM 12 39])
def YR:aN :=
 (oQ [oW 13 (.arith .lss (.t 12) (.t 11))]
 (.seq (.cond (.t 13) .skip (.exit 0))
 (.seq (.block 1 (oQ [oW 14 (.indexAddr 5 (.t 10) (.t 12)),oL 15 5 14,oW 6 (.alloc 96 5 (.agg [.str [],.int .i64 0,.int .i64 0,.int .i64 0,.str []])),oS 5 6 15]
 (oQ [oW 7 (.move (oB false))]
 (.seq (oQ [oM 16 1,oW 17 (.len 1 (.t 16)),oW 18 (.move (oI 0))]
 (.block 2 (.loop YS)))
 YV))))
 YU)))
def YT:aN :=
 (oQ [oW 4 (.move (oB true))]
 .ret)
def t128:aQ:={ntmps:=40,results:=[.t 4],mode:=.pure,body :=
 (oQ [oW 4 (.move (oB false))]
 (.seq (oQ [oM 10 0,oW 11 (.len 1 (.t 10)),oW 12 (.move (oI 0))]
 (.block 0 (.loop YR)))
 YT))}
theorem c128:aE Tryz.prog Tryz.f128 .pure=some t128:=by kernel_rfl
def t129:aQ:={ntmps:=12,results:=[.t 2],mode:=.full,body :=
 (oQ [oW 2 (.move (.c (.int .u8 0)))]
 (oQ [oM 4 0,oW 5 (.call (oF 174) [.t 4,oI 1]),oM 3 5]
 (.seq (oQ [oM 6 3,oW 7 (.len 1 (.t 6)),oW 8 (.arith .eql (.t 7) (oI 0))]
 (.cond (.t 8) (oQ [oW 2 (.move (.c (.int .u8 0)))]
 .ret) .skip))
 (oQ [oM 9 3,oW 10 (.indexAddr 1 (.t 9) (oI 0)),oD 11 10,oM 2 11]
 .ret))))}
theorem c129:aE Tryz.prog Tryz.f129 .full=some t129:=by kernel_rfl
def t130:aQ:={ntmps:=15,results:=[(.cell 2 (some 2))],mode:=.full,body :=
 (oQ [oW 2 (.alloc 40 2 (.agg [.int .i64 0,.int .i64 0]))]
 (oQ [oM 4 0,oW 5 (.call (oF 175) [.t 4]),oM 6 0,oW 7 (.call (oF 175) [.t 6]),oW 8 (.build [.int .i64 0,.int .i64 0] [(0,1,.t 5),(1,1,.t 7)]),oW 3 (.alloc 40 2 (.agg [.int .i64 0,.int .i64 0])),oS 2 3 8]
 (.seq (oQ [oM 9 0,oW 10 (.nilCheck (.t 9)),oA 11 1 10,oD 12 11]
 (.cond (.t 12) (oQ [oW 13 (.build [.int .i64 0,.int .i64 0] []),oS 2 2 13]
 .ret) .skip))
 (oQ [oL 14 2 3,oS 2 2 14]
 .ret))))}
theorem c130:aE Tryz.prog Tryz.f130 .full=some t130:=by kernel_rfl
def t131:aQ:={ntmps:=8,results:=[.t 2],mode:=.full,body :=
 (oQ [oW 2 (.move (oB false))]
 (oQ [oM 3 0,oW 4 (.nilCheck (.t 3)),oA 5 1 4,oD 6 5,oW 7 (.un .not (.t 6)),oM 2 7]
 .ret))}
theorem c131:aE Tryz.prog Tryz.f131 .full=some t131:=by kernel_rfl
def t132:aQ:={ntmps:=23,results:=[(.cell 2 (some 5))],mode:=.full,body :=
 (oQ [oW 2 (.alloc 96 5 (.agg [.str [],.int .i64 0,.int .i64 0,.int .i64 0,.str []]))]
 (oQ [oM 4 0,oW 5 (.call (oF 176) [.t 4]),oM 6 0,oW 7 (.call (oF 129) [.t 6]),oW 8 (.conv .i64 (.t 7)),oW 9 (.build [.str [],.int .i64 0,.int .i64 0,.int .i64 0,.str []] [(0,1,.t 5),(1,1,.t 8)]),oW 3 (.alloc 96 5 (.agg [.str [],.int .i64 0,.int .i64 0,.int .i64 0,.str []])),oS 5 3 9]
 (.seq (oQ [oA 10 1 3,oD 11 10,oW 12 (.arith .eql (.t 11) (oI 1))]
 (.cond (.t 12) (.region [oM 13 0,oW 14 (.call (oF 175) [.t 13]),oM 15 0,oW 16 (.call (oF 175) [.t 15]),oA 17 2 3,oS 1 17 14,oA 18 3 3,oS 1 18 16]) (.region [oM 19 0,oW 20 (.call (oF 176) [.t 19]),oA 21 4 3,oS 1 21 20])))
 (oQ [oL 22 5 3,oS 5 2 22]
 .ret))))}
theorem c132:aE Tryz.prog Tryz.f132 .full=some t132:=by kernel_rfl
def t133:aQ:={ntmps:=24,results:=[(.cell 2 (some 4))],mode:=.full,body :=
 (oQ [oW 2 (.alloc 108 4 (.agg [.str [],.bool false,.int .i64 0,.str []]))]
 (oQ [oM 4 0,oW 5 (.call (oF 176) [.t 4]),oW 6 (.build [.str [],.bool false,.int .i64 0,.str []] [(0,1,.t 5)]),oW 3 (.alloc 108 4 (.agg [.str [],.bool false,.int .i64 0,.str []])),oS 4 3 6]
 (.seq (oQ [oM 7 0,oW 8 (.call (oF 129) [.t 7]),oW 9 (.arith .eql (.t 8) (.c (.int .u8 1))),oA 10 1 3,oA 11 0 10,oS 1 11 9]
 (oQ [oA 12 1 3,oA 13 0 12,oD 14 13]
 (.cond (.t 14) (.region [oM 15 0,oW 16 (.call (oF 176) [.t 15]),oA 17 1 3,oA 18 2 17,oS 1 18 16]) (.region [oM 19 0,oW 20 (.call (oF 175) [.t 19]),oA 21 1 3,oA 22 1 21,oS 1 22 20]))))
 (oQ [oL 23 4 3,oS 4 2 23]
 .ret))))}
theorem c133:aE Tryz.prog Tryz.f133 .full=some t133:=by kernel_rfl
def Wa:aQ:={ntmps:=20,results:=[.t 4],mode:=.pure,body :=
 (oQ [oW 4 (.move (oI 0))]
 (oQ [oM 7 0,oW 8 (.call (oF 177) [.t 7]),oM 5 8]
 (oQ [oM 9 1,oW 10 (.call (oF 177) [.t 9]),oM 6 10]
 (.seq (oQ [oM 11 5]
 (.cond (.t 11) (.seq (oQ [oM 12 6]
 (.cond (.t 12) (oQ [oW 4 (.move (oI 0))]
 .ret) .skip))
 (oQ [oW 4 (.move (oI (-1)))]
 .ret)) .skip))
 (.seq (oQ [oM 13 6]
 (.cond (.t 13) (oQ [oW 4 (.move (oI 1))]
 .ret) .skip))
 (.seq (oQ [oM 14 0,oM 15 1,oW 16 (.arith .lss (.t 14) (.t 15))]
 (.cond (.t 16) (oQ [oW 4 (.move (oI (-1)))]
 .ret) .skip))
 (.seq (oQ [oM 17 0,oM 18 1,oW 19 (.arith .gtr (.t 17) (.t 18))]
 (.cond (.t 19) (oQ [oW 4 (.move (oI 1))]
 .ret) .skip))
 (oQ [oW 4 (.move (oI 0))]
 .ret))))))))}
theorem c134:aE Tryz.prog Tryz.f134 .pure=some Wa:=by kernel_rfl
def DS:aQ:={ntmps:=12,results:=[.t 4,.t 5],mode:=.pure,body :=
 (oQ [oW 2 (.box 36 6 (.t 0)),oW 3 (.box 40 2 (.t 1)),oW 4 (.move (oI 0)),oW 5 (.move (oB false))]
 (oQ [oA 6 3 2,oD 7 6,oL 8 2 3,oW 9 (.call (oF 178) [.t 7,.t 8,oF 78]),oX 10 9 0,oX 11 9 1,oM 4 10,oM 5 11]
 .ret))}
theorem c136:aE Tryz.prog Tryz.f136 .pure=some DS:=by kernel_rfl
def zD:aQ:={ntmps:=43,results:=[.t 2],mode:=.pure,body :=
 (oQ [oW 1 (.box 96 5 (.t 0)),oW 2 (.move (oB false))]
 (.seq (oQ [oA 3 0 1,oD 4 3,oW 5 (.call (oF 166) [.t 4]),oW 6 (.un .not (.t 5))]
 (.cond (.t 6) (oQ [oW 2 (.move (oB false))]
 .ret) .skip))
 (.seq (oQ [oA 7 1 1,oD 8 7]
 (.block 0 (.seq (.block 3 (.seq (.block 2 (.seq (.block 1 (.seq (.seq (oQ [oW 10 (.arith .eql (.t 8) (oI 1)),oM 9 10]
 (.cond (.t 9) (.exit 1) .skip))
 (.seq (oQ [oW 12 (.arith .eql (.t 8) (oI 3)),oM 11 12]
 (.cond (.t 11) (.exit 2) .skip))
 (oQ [oW 14 (.arith .eql (.t 8) (oI 2)),oM 13 14]
 (.cond (.t 13) (.exit 3) .skip))))
 (.exit 0)))
 (.seq (oQ [oA 15 2 1,oD 16 15,oA 17 3 1,oD 18 17,oW 19 (.arith .leq (.t 16) (.t 18)),oM 20 19,gA 21 4 1 20 true,gD 22 21 20 true,gW 23 (.arith .eql (.t 22) (.c (.str []))) 20 true,oW 24 (.pick (.t 20) (.t 23) (oB false)),oM 2 24]
 .ret)
 (.exit 0))))
 (oQ [oA 25 4 1,oD 26 25,oW 27 (.len 0 (.t 26)),oW 28 (.arith .eql (.t 27) (oI 12))]
 (.cond (.t 28) (oQ [oW 2 (.move (oB false))]
 .ret) .skip))))
 (.seq (oQ [oA 29 2 1,oD 30 29,oW 31 (.arith .eql (.t 30) (oI 0)),oM 32 31,gA 33 3 1 32 true,gD 34 33 32 true,gW 35 (.arith .eql (.t 34) (oI 0)) 32 true,oW 36 (.pick (.t 32) (.t 35) (oB false)),oM 37 36,gA 38 4 1 37 true,gD 39 38 37 true,gW 40 (.len 0 (.t 39)) 37 true,gW 41 (.arith .leq (.t 40) (oI 12)) 37 true,oW 42 (.pick (.t 37) (.t 41) (oB false)),oM 2 42]
 .ret)
 (.exit 0)))))
 (oQ [oW 2 (.move (oB false))]
 .ret))))}
theorem c138:aE Tryz.prog Tryz.f138 .pure=some zD:=by kernel_rfl
def Rd:aN :=
 (oQ [oW 9 (.arith .lss (.t 8) (.t 7))]
 (.seq (.cond (.t 9) .skip (.exit 0))
 (.seq (.block 1 (oQ [oM 10 8,oM 5 10]
 (oQ [oM 11 1,oM 12 0,oM 13 5,oW 14 (.indexAddr 7 (.t 12) (.t 13)),oL 15 7 14,oW 16 (.call (.t 11) [.t 15])]
 (.cond (.t 16) (oQ [oM 17 5,oM 4 17]
 .ret) .skip))))
 (.region [oW 18 (.arith .add (.t 8) (oI 1)),oM 8 18]))))
def J4:aN :=
 (oQ [oW 4 (.move (oI (-1)))]
 .ret)
def DR:aQ:={ntmps:=19,results:=[.t 4],mode:=.pure,body :=
 (oQ [oW 4 (.move (oI 0))]
 (.seq (oQ [oM 6 0,oW 7 (.len 1 (.t 6)),oW 8 (.move (oI 0))]
 (.block 0 (.loop Rd)))
 J4))}
theorem c139:aE Tryz.prog Tryz.f139 .pure=some DR:=by kernel_rfl
def DQ:aQ:={ntmps:=12,results:=[.t 4,.t 5],mode:=.pure,body :=
 (oQ [oW 2 (.box 36 6 (.t 0)),oW 3 (.box 40 2 (.t 1)),oW 4 (.move (oI 0)),oW 5 (.move (oB false))]
 (oQ [oA 6 2 2,oD 7 6,oL 8 2 3,oW 9 (.call (oF 180) [.t 7,.t 8,oF 181]),oX 10 9 0,oX 11 9 1,oM 4 10,oM 5 11]
 .ret))}
theorem c141:aE Tryz.prog Tryz.f141 .pure=some DQ:=by kernel_rfl
def Rc:aN :=
 (oQ [oW 12 (.arith .lss (.t 11) (.t 10))]
 (.seq (.cond (.t 12) .skip (.exit 0))
 (.seq (.block 1 (oQ [oW 13 (.indexAddr 7 (.t 9) (.t 11)),oL 14 7 13,oW 7 (.alloc 114 7 (.agg [.int .i64 0,.int .i64 0,.int .i64 0,.int .i64 0,.nsl,.int .i64 0,.bool false])),oS 7 7 14]
 (oQ [oA 15 0 7,oL 16 2 15,oL 17 2 3,oW 18 (.eqa false [1,1] (.t 16) (.t 17))]
 (.cond (.t 18) (.region [oM 19 5,oL 20 7 7,oW 21 (.buildSlice 114 7 (.agg [.int .i64 0,.int .i64 0,.int .i64 0,.int .i64 0,.nsl,.int .i64 0,.bool false]) 1 [(0,.t 20)]),oW 22 (.append 114 7 72 (.t 19) (.t 21)),oM 5 22]) .skip))))
 (.region [oW 23 (.arith .add (.t 11) (oI 1)),oM 11 23]))))
def J2:aN :=
 (oQ [oM 24 5,oM 4 24]
 .ret)
def J3:aQ:={ntmps:=25,results:=[.t 4],mode:=.pure,body :=
 (oQ [oW 2 (.box 36 6 (.t 0)),oW 3 (.box 40 2 (.t 1)),oW 4 (.move (.c .nsl))]
 (oQ [oW 5 (.move (.c .nsl))]
 (.seq (oQ [oA 8 4 2,oD 9 8,oW 10 (.len 1 (.t 9)),oW 11 (.move (oI 0))]
 (.block 0 (.loop Rc)))
 J2)))}
theorem c142:aE Tryz.prog Tryz.f142 .pure=some J3:=by kernel_rfl
def DP:aQ:={ntmps:=12,results:=[.t 3],mode:=.pure,body :=
 (oQ [oW 2 (.box 114 7 (.t 0)),oW 3 (.move (oB false))]
 (oQ [oA 4 6 2,oD 5 4,oM 6 5,gA 7 4 2 6 true,gD 8 7 6 true,gD 9 1 6 true,gW 10 (.call (oF 144) [.t 8,.t 9]) 6 true,oW 11 (.pick (.t 6) (.t 10) (oB false)),oM 3 11]
 .ret))}
theorem c143:aE Tryz.prog Tryz.f143 .pure=some DP:=by kernel_rfl
def Ra:aN :=
 (oQ [oW 16 (.arith .lss (.t 15) (.t 14))]
 (.seq (.cond (.t 16) .skip (.exit 0))
 (.seq (.block 1 (oQ [oW 17 (.indexAddr 5 (.t 13) (.t 15)),oL 18 5 17,oW 7 (.alloc 96 5 (.agg [.str [],.int .i64 0,.int .i64 0,.int .i64 0,.str []])),oS 5 7 18]
 (.region [oM 19 5,oA 20 0 7,oD 21 20,oL 22 5 7,oZ (.mapUpdate (.prim 2) (.t 19) (.t 21) (.t 22))])))
 (.region [oW 23 (.arith .add (.t 15) (oI 1)),oM 15 23]))))
def Qz:aN :=
 (oQ [oW 27 (.arith .lss (.t 26) (.t 25))]
 (.seq (.cond (.t 27) .skip (.exit 2))
 (.seq (.block 3 (oQ [oW 28 (.indexAddr 5 (.t 24) (.t 26)),oL 29 5 28,oW 9 (.alloc 96 5 (.agg [.str [],.int .i64 0,.int .i64 0,.int .i64 0,.str []])),oS 5 9 29]
 (oQ [oM 31 5,oA 32 0 9,oD 33 32,oW 34 (.lookup (.prim 2) (.agg [.str [],.int .i64 0,.int .i64 0,.int .i64 0,.str []]) true (.t 31) (.t 33)),oM 30 34,oX 35 30 0,oX 36 30 1,oW 10 (.alloc 96 5 (.agg [.str [],.int .i64 0,.int .i64 0,.int .i64 0,.str []])),oS 5 10 35,oM 11 36]
 (oQ [oM 37 11,oW 38 (.un .not (.t 37)),oM 39 38,gL 40 5 9 39 false,gL 41 5 10 39 false,gW 42 (.call (oF 182) [.t 40,.t 41]) 39 false,gW 43 (.un .not (.t 42)) 39 false,oW 44 (.pick (.t 39) (oB true) (.t 43))]
 (.cond (.t 44) (oQ [oW 4 (.move (oB false))]
 .ret) .skip)))))
 (.region [oW 45 (.arith .add (.t 26) (oI 1)),oM 26 45]))))
def J1:aN :=
 (oQ [oW 4 (.move (oB true))]
 .ret)
def Rb:aN :=
 (.seq (oQ [oM 24 0,oW 25 (.len 1 (.t 24)),oW 26 (.move (oI 0))]
 (.block 2 (.loop Qz)))
 J1)
def DN:aQ:={ntmps:=46,results:=[.t 4],mode:=.pure,body :=
 (oQ [oW 4 (.move (oB false))]
 (oQ [oW 12 (.makeMap),oM 5 12]
 (.seq (oQ [oM 13 1,oW 14 (.len 1 (.t 13)),oW 15 (.move (oI 0))]
 (.block 0 (.loop Ra)))
 Rb)))}
theorem c144:aE Tryz.prog Tryz.f144 .pure=some DN:=by kernel_rfl
def DM:aQ:={ntmps:=2,results:=[.t 0],mode:=.pure,body :=
 (oQ [oW 0 (.move (.c .nsl))]
 (oQ [oW 1 (.buildSlice 9 1 (.str []) 7 [(0,(.c (.str []))),(1,(.c (.str [120]))),(2,(.c (.str [120,121]))),(3,(.c (.str [120,121,122]))),(4,(.c (.str [120,122]))),(5,(.c (.str [121]))),(6,(.c (.str [121,121])))]),oM 0 1]
 .ret))}
theorem c145:aE Tryz.prog Tryz.f145 .pure=some DM:=by kernel_rfl
def Qy:aN :=
 (.seq (.seq (.draw [oRM 16 7,oRM 17 4,oR 18 (.len 1 (.t 17)),oR 19 (.arith .lss (.t 16) (.t 18)),oRM 20 19,rM 21 4 20 true,rM 22 7 20 true,rW 23 (.indexAddr 5 (.t 21) (.t 22)) 20 true,rA 24 0 23 20 true,rD 25 24 20 true,rA 26 0 6 20 true,rD 27 26 20 true,rW 28 (.arith .lss (.t 25) (.t 27)) 20 true,oR 29 (.pick (.t 20) (.t 28) (oB false))])
 (.cond (.t 29) .skip (.exit 2)))
 (.block 3 (.region [oM 30 7,oW 31 (.arith .add (.t 30) (oI 1)),oM 7 31])))
def wX:aN :=
 (.seq (.seq (.draw [oRM 32 7,oRM 33 4,oR 34 (.len 1 (.t 33)),oR 35 (.arith .lss (.t 32) (.t 34)),oRM 36 35,rM 37 4 36 true,rM 38 7 36 true,rW 39 (.indexAddr 5 (.t 37) (.t 38)) 36 true,rA 40 0 39 36 true,rD 41 40 36 true,rA 42 0 6 36 true,rD 43 42 36 true,rW 44 (.arith .eql (.t 41) (.t 43)) 36 true,oR 45 (.pick (.t 36) (.t 44) (oB false))])
 (.cond (.t 45) (.seq (.draw [oRM 47 4,oRM 48 7,oR 49 (.indexAddr 5 (.t 47) (.t 48)),oRL 50 5 49,oRL 51 5 6,oW 52 (.call (oF 183) [.t 50,.t 51]),nK 46 (.move (.t 52)) .read 1,nK 53 (.extract (.t 46) 0) .read 1,nK 8 (.alloc 96 5 (.agg [.str [],.int .i64 0,.int .i64 0,.int .i64 0,.str []])) .create 0,⟨none,.store 5 (.t 8) (.t 53),none,.write,2,false⟩,nK 54 (.extract (.t 46) 1) .read 1,nK 9 (.move (.t 54)) .read 3])
 (.seq (oQ [oM 55 9,oW 56 (.un .not (.t 55))]
 (.cond (.t 56) (oQ [oW 2 (.move (.c .nsl)),oW 3 (.move (oB false))]
 .ret) .skip))
 (oQ [oW 57 (.buildSlice 96 5 (.agg [.str [],.int .i64 0,.int .i64 0,.int .i64 0,.str []]) 0 []),oM 58 4,oW 59 (.append 96 5 56 (.t 57) (.t 58)),oM 4 59]
 (oQ [oM 60 4,oM 61 7,oL 62 5 8,oW 63 (.indexAddr 5 (.t 60) (.t 61)),oS 5 63 62]
 (.exit 1))))) .skip))
 (.draw [oRM 65 4,oRM 66 7,oR 67 (.sliceSl 5 (.t 65) none (some (.t 66))),nK 64 (.buildSlice 96 5 (.agg [.str [],.int .i64 0,.int .i64 0,.int .i64 0,.str []]) 0 []) .create 0,nK 68 (.append 96 5 56 (.t 64) (.t 67)) .create 0,oRL 69 5 6,nK 70 (.buildSlice 96 5 (.agg [.str [],.int .i64 0,.int .i64 0,.int .i64 0,.str []]) 1 [(0,.t 69)]) .create 0,nK 71 (.append 96 5 56 (.t 68) (.t 70)) .create 0,oRM 72 4,oRM 73 7,oR 74 (.sliceSl 5 (.t 72) (some (.t 73)) none),nK 75 (.append 96 5 56 (.t 71) (.t 74)) .write 4,nK 4 (.move (.t 75)) .read 5]))
def Ix:aN :=
 (.region [oW 76 (.arith .add (.t 12) (oI 1)),oM 12 76])
def Qx:aN :=
 (oQ [oW 13 (.arith .lss (.t 12) (.t 11))]
 (.seq (.cond (.t 13) .skip (.exit 0))
 (.seq (.block 1 (oQ [oW 14 (.indexAddr 5 (.t 10) (.t 12)),oL 15 5 14,oW 6 (.alloc 96 5 (.agg [.str [],.int .i64 0,.int .i64 0,.int .i64 0,.str []])),oS 5 6 15]
 (oQ [oW 7 (.move (oI 0))]
 (.seq (.block 2 (.loop Qy))
 wX))))
 Ix)))
def J0:aN :=
 (oQ [oM 77 4,oM 2 77,oW 3 (.move (oB true))]
 .ret)
def DL:aQ:={ntmps:=78,results:=[.t 2,.t 3],mode:=.pure,body :=
 (oQ [oW 2 (.move (.c .nsl)),oW 3 (.move (oB false))]
 (oQ [oW 4 (.move (.c .nsl))]
 (.seq (oQ [oM 10 0,oW 11 (.len 1 (.t 10)),oW 12 (.move (oI 0))]
 (.block 0 (.loop Qx)))
 J0)))}
theorem c146:aE Tryz.prog Tryz.f146 .pure=some DL:=by kernel_rfl
end Go.Dm.Tc
