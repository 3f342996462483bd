/- A part of the proof. -/
import Derived.Test.YtegofjiikhlokaaGreatDoorTc0
import Derived.Test.YtegofjiikhlokaaGreatDoorMm3
import Derived.Test.YtegofjiikhlokaaGreatDoorRows
import Derived.KernelRfl
namespace Go.Dm.Tc
open Go.Proofs
def t49:aQ:={ntmps:=8,results:=[.t 4],mode:=.pure,body :=
 (oQ [oW 4 (.move (oB false))]
 (oQ [oM 5 0,oM 6 1,oW 7 (.call (oF 115) [.t 5,.t 6]),oM 4 7]
 .ret))}
theorem c49:aE Tryz.prog Tryz.f49 .pure=some t49:=by kernel_rfl
def Y5:aN :=
 (oQ [oW 18 (.arith .lss (.t 17) (.t 16))]
 (.seq (.cond (.t 18) .skip (.exit 0))
 (.seq (.block 1 (oQ [oM 19 17,oW 20 (.indexAddr 7 (.t 15) (.t 17)),oL 21 7 20,oW 8 (.alloc 114 7 (.agg [.int .i64 0,.int .i64 0,.int .i64 0,.int .i64 0,.nsl,.int .i64 0,.bool false])),oM 7 19,oS 7 8 21]
 (oQ [oM 22 1,oM 23 7,oW 24 (.indexAddr 7 (.t 22) (.t 23)),oL 25 7 24,oW 9 (.alloc 114 7 (.agg [.int .i64 0,.int .i64 0,.int .i64 0,.int .i64 0,.nsl,.int .i64 0,.bool false])),oS 7 9 25]
 (oQ [oM 26 2,oL 27 7 8,oL 28 7 9,oW 29 (.call (.t 26) [.t 27,.t 28]),oW 30 (.un .not (.t 29))]
 (.cond (.t 30) (oQ [oW 6 (.move (oB false))]
 .ret) .skip)))))
 (.region [oW 31 (.arith .add (.t 17) (oI 1)),oM 17 31]))))
def KA:aN :=
 (oQ [oW 6 (.move (oB true))]
 .ret)
def t50:aQ:={ntmps:=32,results:=[.t 6],mode:=.pure,body :=
 (oQ [oW 6 (.move (oB false))]
 (.seq (oQ [oM 10 0,oW 11 (.len 1 (.t 10)),oM 12 1,oW 13 (.len 1 (.t 12)),oW 14 (.arith .neq (.t 11) (.t 13))]
 (.cond (.t 14) (oQ [oW 6 (.move (oB false))]
 .ret) .skip))
 (.seq (oQ [oM 15 0,oW 16 (.len 1 (.t 15)),oW 17 (.move (oI 0))]
 (.block 0 (.loop Y5)))
 KA)))}
theorem c50:aE Tryz.prog Tryz.f50 .pure=some t50:=by kernel_rfl
def t51:aQ:={ntmps:=38,results:=[.t 4],mode:=.pure,body :=
 (oQ [oW 2 (.box 114 7 (.t 0)),oW 3 (.box 114 7 (.t 1)),oW 4 (.move (oB false))]
 (oQ [oA 5 0 2,oL 6 2 5,oA 7 0 3,oL 8 2 7,oW 9 (.eqa false [1,1] (.t 6) (.t 8)),oM 10 9,gA 11 2 2 10 true,gL 12 2 11 10 true,gA 13 2 3 10 true,gL 14 2 13 10 true,gW 15 (.eqa false [1,1] (.t 12) (.t 14)) 10 true,oW 16 (.pick (.t 10) (.t 15) (oB false)),oM 17 16,gA 18 5 2 17 true,gD 19 18 17 true,gA 20 5 3 17 true,gD 21 20 17 true,gW 22 (.arith .eql (.t 19) (.t 21)) 17 true,oW 23 (.pick (.t 17) (.t 22) (oB false)),oM 24 23,gA 25 6 2 24 true,gD 26 25 24 true,gA 27 6 3 24 true,gD 28 27 24 true,gW 29 (.eqb false (.t 26) (.t 28)) 24 true,oW 30 (.pick (.t 24) (.t 29) (oB false)),oM 31 30,gA 32 4 2 31 true,gD 33 32 31 true,gA 34 4 3 31 true,gD 35 34 31 true,gW 36 (.call (oF 49) [.t 33,.t 35]) 31 true,oW 37 (.pick (.t 31) (.t 36) (oB false)),oM 4 37]
 .ret))}
theorem c51:aE Tryz.prog Tryz.f51 .pure=some t51:=by kernel_rfl
def Y4:aN :=
 (oQ [oW 18 (.arith .lss (.t 17) (.t 16))]
 (.seq (.cond (.t 18) .skip (.exit 0))
 (.seq (.block 1 (oQ [oM 19 17,oW 20 (.indexAddr 3 (.t 15) (.t 17)),oL 21 3 20,oW 8 (.alloc 98 3 (.agg [.int .i64 0,.int .i64 0,.nsl])),oM 7 19,oS 3 8 21]
 (oQ [oM 22 1,oM 23 7,oW 24 (.indexAddr 3 (.t 22) (.t 23)),oL 25 3 24,oW 9 (.alloc 98 3 (.agg [.int .i64 0,.int .i64 0,.nsl])),oS 3 9 25]
 (oQ [oM 26 2,oL 27 3 8,oL 28 3 9,oW 29 (.call (.t 26) [.t 27,.t 28]),oW 30 (.un .not (.t 29))]
 (.cond (.t 30) (oQ [oW 6 (.move (oB false))]
 .ret) .skip)))))
 (.region [oW 31 (.arith .add (.t 17) (oI 1)),oM 17 31]))))
def JZ:aN :=
 (oQ [oW 6 (.move (oB true))]
 .ret)
def t52:aQ:={ntmps:=32,results:=[.t 6],mode:=.pure,body :=
 (oQ [oW 6 (.move (oB false))]
 (.seq (oQ [oM 10 0,oW 11 (.len 1 (.t 10)),oM 12 1,oW 13 (.len 1 (.t 12)),oW 14 (.arith .neq (.t 11) (.t 13))]
 (.cond (.t 14) (oQ [oW 6 (.move (oB false))]
 .ret) .skip))
 (.seq (oQ [oM 15 0,oW 16 (.len 1 (.t 15)),oW 17 (.move (oI 0))]
 (.block 0 (.loop Y4)))
 JZ)))}
theorem c52:aE Tryz.prog Tryz.f52 .pure=some t52:=by kernel_rfl
def t53:aQ:={ntmps:=17,results:=[.t 4],mode:=.pure,body :=
 (oQ [oW 2 (.box 98 3 (.t 0)),oW 3 (.box 98 3 (.t 1)),oW 4 (.move (oB false))]
 (oQ [oA 5 0 2,oL 6 2 5,oA 7 0 3,oL 8 2 7,oW 9 (.eqa false [1,1] (.t 6) (.t 8)),oM 10 9,gA 11 2 2 10 true,gD 12 11 10 true,gA 13 2 3 10 true,gD 14 13 10 true,gW 15 (.call (oF 49) [.t 12,.t 14]) 10 true,oW 16 (.pick (.t 10) (.t 15) (oB false)),oM 4 16]
 .ret))}
theorem c53:aE Tryz.prog Tryz.f53 .pure=some t53:=by kernel_rfl
def t54:aQ:={ntmps:=63,results:=[.t 2],mode:=.full,body :=
 (oQ [oW 1 (.box 44 7 (.t 0)),oW 2 (.move (oB false))]
 (oQ [oA 6 0 1,oD 7 6,oW 8 (.call (oF 116) [.t 7]),oM 5 8,oX 9 5 0,oX 10 5 1,oM 3 9,oM 4 10]
 (.seq (.block 0 (oQ [oM 12 4,oW 13 (.un .not (.t 12)),oM 14 13,gA 15 1 1 14 false,gL 16 2 15 14 false,gW 17 (.call (oF 117) [.t 16]) 14 false,gW 18 (.un .not (.t 17)) 14 false,oW 19 (.pick (.t 14) (oB true) (.t 18)),oM 20 19,gA 21 5 1 20 false,gD 22 21 20 false,gW 23 (.call (oF 83) [.t 22]) 20 false,gW 24 (.un .not (.t 23)) 20 false,oW 25 (.pick (.t 20) (oB true) (.t 24)),oM 26 25,gA 27 6 1 26 false,gD 28 27 26 false,gW 29 (.call (oF 118) [.t 28]) 26 false,gW 30 (.un .not (.t 29)) 26 false,oW 31 (.pick (.t 26) (oB true) (.t 30)),oM 11 31]
 (.cond (.t 11) (oQ [oW 2 (.move (oB false))]
 .ret) (.seq (oQ [oM 33 3,oW 34 (.arith .and (.t 33) (oI 1)),oW 35 (.arith .eql (.t 34) (oI 0)),oM 36 35,gA 37 3 1 36 true,gL 38 2 37 36 true,gW 39 (.build [.int .i64 0,.int .i64 0] []) 36 true,gW 40 (.eqa true [1,1] (.t 38) (.t 39)) 36 true,oW 41 (.pick (.t 36) (.t 40) (oB false)),oM 32 41]
 (.cond (.t 32) .skip (oQ [oM 42 3,oW 43 (.arith .and (.t 42) (oI 2)),oW 44 (.arith .eql (.t 43) (oI 0)),oM 45 44,gA 46 5 1 45 true,gD 47 46 45 true,gW 48 (.len 1 (.t 47)) 45 true,gW 49 (.arith .gtr (.t 48) (oI 0)) 45 true,oW 50 (.pick (.t 45) (.t 49) (oB false)),oM 32 50]
 (.cond (.t 32) .skip (.region [oM 51 3,oW 52 (.arith .and (.t 51) (oI 4)),oW 53 (.arith .eql (.t 52) (oI 0)),oM 54 53,gA 55 6 1 54 true,gD 56 55 54 true,gW 57 (.len 1 (.t 56)) 54 true,gW 58 (.arith .gtr (.t 57) (oI 0)) 54 true,oW 59 (.pick (.t 54) (.t 58) (oB false)),oM 32 59])))))
 (.cond (.t 32) (oQ [oW 2 (.move (oB false))]
 .ret) .skip)))))
 (oQ [oA 60 3 1,oL 61 2 60,oW 62 (.call (oF 117) [.t 61]),oM 2 62]
 .ret))))}
theorem c54:aE Tryz.prog Tryz.f54 .full=some t54:=by kernel_rfl
def t55:aQ:={ntmps:=15,results:=[.t 6],mode:=.pure,body :=
 (oQ [oW 6 (.move (.c .nili))]
 (.seq (oQ [oM 7 2,oW 8 (.eqn 4 false (.t 7) (.c .nili))]
 (.cond (.t 8) (oQ [oW 6 (.move (.c .nili))]
 .ret) .skip))
 (oQ [oM 9 0,oM 10 1,oM 11 2,oW 12 (.build [.str [],.int .i64 0,.nili] [(0,1,.t 9),(1,1,.t 10),(2,1,.t 11)]),oW 13 (.box 127 3 (.t 12)),oW 14 (.makeIface 125 (.t 13)),oM 6 14]
 .ret)))}
theorem c55:aE Tryz.prog Tryz.f55 .pure=some t55:=by kernel_rfl
def AcI:aN :=
 (oQ [oW 46 (.arith .lss (.t 45) (.t 44))]
 (.seq (.cond (.t 46) .skip (.exit 0))
 (.seq (.block 1 (oQ [oW 47 (.indexAddr 5 (.t 43) (.t 45)),oL 48 5 47,oW 7 (.alloc 96 5 (.agg [.str [],.int .i64 0,.int .i64 0,.int .i64 0,.str []])),oS 5 7 48]
 (.region [oM 49 5,oL 50 5 7,oW 51 (.call (oF 120) [.t 50]),oW 52 (.append 5 1 1 (.t 49) (.t 51)),oM 5 52])))
 (.region [oW 53 (.arith .add (.t 45) (oI 1)),oM 45 53]))))
def AcH:aN :=
 (oQ [oW 68 (.arith .lss (.t 67) (.t 66))]
 (.seq (.cond (.t 68) .skip (.exit 2))
 (.seq (.block 3 (oQ [oW 69 (.indexAddr 4 (.t 65) (.t 67)),oL 70 4 69,oW 9 (.alloc 108 4 (.agg [.str [],.bool false,.int .i64 0,.str []])),oS 4 9 70]
 (.region [oM 71 5,oL 72 4 9,oW 73 (.call (oF 121) [.t 72]),oW 74 (.append 5 1 1 (.t 71) (.t 73)),oM 5 74])))
 (.region [oW 75 (.arith .add (.t 67) (oI 1)),oM 67 75]))))
def AdA:aN :=
 (oQ [oM 76 5,oM 2 76]
 .ret)
def AcJ:aN :=
 (.seq (oQ [oM 54 3,oW 55 (.arith .and (.t 54) (oI 4)),oW 56 (.arith .neq (.t 55) (oI 0))]
 (.cond (.t 56) (oQ [oM 57 5,oA 58 6 1,oD 59 58,oW 60 (.len 1 (.t 59)),oW 61 (.conv .u8 (.t 60)),oW 62 (.buildSlice 5 1 (.int .u8 0) 1 [(0,.t 61)]),oW 63 (.append 5 1 1 (.t 57) (.t 62)),oM 5 63]
 (oQ [oA 64 6 1,oD 65 64,oW 66 (.len 1 (.t 65)),oW 67 (.move (oI 0))]
 (.block 2 (.loop AcH)))) .skip))
 AdA)
def t56:aQ:={ntmps:=77,results:=[.t 2],mode:=.full,body :=
 (oQ [oW 1 (.box 44 7 (.t 0)),oW 2 (.move (.c .nsl))]
 (oQ [oA 11 0 1,oD 12 11,oW 13 (.call (oF 116) [.t 12]),oM 10 13,oX 14 10 0,oX 15 10 1,oM 3 14,oM 4 15]
 (.seq (.draw [oRA 16 0 1,oRD 17 16,oRA 20 1 1,oRL 21 2 20,nK 22 (.call (oF 119) [.t 21]) .create 0,oR 18 (.conv .u8 (.t 17)),nK 19 (.buildSlice 5 1 (.int .u8 0) 1 [(0,.t 18)]) .create 0,nK 23 (.append 5 1 1 (.t 19) (.t 22)) .write 2,nK 5 (.move (.t 23)) .read 3])
 (.seq (oQ [oM 24 3,oW 25 (.arith .and (.t 24) (oI 1)),oW 26 (.arith .neq (.t 25) (oI 0))]
 (.cond (.t 26) (.region [oM 27 5,oA 28 3 1,oL 29 2 28,oW 30 (.call (oF 119) [.t 29]),oW 31 (.append 5 1 1 (.t 27) (.t 30)),oM 5 31]) .skip))
 (.seq (oQ [oM 32 3,oW 33 (.arith .and (.t 32) (oI 2)),oW 34 (.arith .neq (.t 33) (oI 0))]
 (.cond (.t 34) (oQ [oM 35 5,oA 36 5 1,oD 37 36,oW 38 (.len 1 (.t 37)),oW 39 (.conv .u8 (.t 38)),oW 40 (.buildSlice 5 1 (.int .u8 0) 1 [(0,.t 39)]),oW 41 (.append 5 1 1 (.t 35) (.t 40)),oM 5 41]
 (oQ [oA 42 5 1,oD 43 42,oW 44 (.len 1 (.t 43)),oW 45 (.move (oI 0))]
 (.block 0 (.loop AcI)))) .skip))
 AcJ)))))}
theorem c56:aE Tryz.prog Tryz.f56 .full=some t56:=by kernel_rfl
def AcF:aN :=
 (.seq (oQ [oM 5 0,oW 6 (.makeIface 128 (.t 4)),oW 7 (.call (oF 57) [.t 5,.t 6])]
 (.cond (.t 7) .skip (.exit 0)))
 (.block 1 (oQ [oM 8 3,oD 9 4,oW 10 (.buildSlice 125 1 .nilp 1 [(0,.t 9)]),oW 11 (.append 125 1 8 (.t 8) (.t 10)),oM 3 11]
 (.region [oD 12 4,oW 13 (.nilCheck (.t 12)),oA 14 2 13,oD 15 14,oM 0 15]))))
def AcG:aN :=
 (oQ [oM 16 3,oM 2 16]
 .ret)
def t58:aQ:={ntmps:=17,results:=[.t 2],mode:=.full,body :=
 (oQ [oW 2 (.move (.c .nsl))]
 (oQ [oW 3 (.move (.c .nsl))]
 (oQ [oW 4 (.alloc 125 1 .nilp)]
 (.seq (.block 0 (.loop AcF))
 AcG))))}
theorem c58:aE Tryz.prog Tryz.f58 .full=some t58:=by kernel_rfl
def t59:aQ:={ntmps:=25,results:=[(.cell 6 (some 6)),.t 7],mode:=.frz,body :=
 (oQ [oW 3 (.box 36 6 (.t 0)),oW 5 (.box 40 2 (.t 2)),oW 6 (.alloc 36 6 (.agg [.int .i64 0,.nsl,.nsl,.nsl,.nsl,.nsl])),oW 7 (.move (.c .nsl))]
 (oQ [oL 10 6 3,oL 11 2 5,oM 12 1,oW 13 (.call (oF 126) [.t 10,.t 11,.t 12]),oM 9 13,oX 14 9 0,oX 15 9 1,oS 6 3 14,oM 8 15]
 (.seq (oQ [oM 16 8,oW 17 (.un .not (.t 16))]
 (.cond (.t 17) (oQ [oL 18 6 3,oS 6 6 18,oW 7 (.move (.c .nsl))]
 .ret) .skip))
 (.seq (.draw [oRL 19 6 3,oRL 20 6 3,oRL 22 2 5,oRM 21 1,oR 23 (.build [.int .i64 0,.int .i64 0,.int .i64 0,.int .i64 0,.int .i64 0,.nsl,.nsl] [(0,1,oI 2),(1,2,.t 22)]),nK 24 (.call (oF 100) [.t 20,.t 21,.t 23]) .create 0,⟨none,.store 6 (.t 6) (.t 19),none,.write,1,false⟩,nK 7 (.move (.t 24)) .read 2])
 .ret))))}
theorem c59:aE Tryz.prog Tryz.f59 .frz=some t59:=by kernel_rfl
def t60:aQ:={ntmps:=41,results:=[(.cell 6 (some 6)),.t 7],mode:=.frz,body :=
 (oQ [oW 3 (.box 36 6 (.t 0)),oW 5 (.box 44 7 (.t 2)),oW 6 (.alloc 36 6 (.agg [.int .i64 0,.nsl,.nsl,.nsl,.nsl,.nsl])),oW 7 (.move (.c .nsl))]
 (oQ [oA 10 1 5,oL 11 2 10,oA 12 3 5,oL 13 2 12,oA 14 5 5,oD 15 14,oM 16 1,oW 17 (.build [.int .i64 0,.int .i64 0,.int .i64 0,.int .i64 0,.nsl,.int .i64 0,.bool false] [(0,2,.t 11),(2,2,.t 13),(4,1,.t 15),(5,1,.t 16)]),oW 8 (.alloc 114 7 (.agg [.int .i64 0,.int .i64 0,.int .i64 0,.int .i64 0,.nsl,.int .i64 0,.bool false])),oS 7 8 17]
 (oQ [oL 19 6 3,oL 20 7 8,oW 21 (.call (oF 96) [.t 19,.t 20]),oM 18 21,oX 22 18 0,oX 23 18 1,oS 6 3 22,oM 9 23]
 (.seq (oQ [oM 24 9,oW 25 (.un .not (.t 24))]
 (.cond (.t 25) (oQ [oL 26 6 3,oS 6 6 26,oW 7 (.move (.c .nsl))]
 .ret) .skip))
 (.seq (.draw [oRL 27 6 3,oRA 28 2 3,oRD 29 28,⟨(some 30),.load (some 6) (.t 3),none,.read,0,true⟩,oRA 31 1 5,⟨(some 32),.load (some 2) (.t 31),none,.read,0,true⟩,nK 33 (.call (oF 127) [.t 30,.t 32]) .create 0,nK 34 (.indexAddr 4 (.t 29) (.t 33)) .read 1,nK 35 (.fieldAddr 3 (.t 34)) .read 1,nK 36 (.load none (.t 35)) .read 1,oRL 37 7 8,nK 38 (.call (oF 97) [.t 37]) .create 1,⟨none,.store 6 (.t 6) (.t 27),none,.create,1,false⟩,nK 39 (.build [.int .i64 0,.int .i64 0,.int .i64 0,.int .i64 0,.int .i64 0,.int .i64 0,.nsl,.nsl] [(0,1,.t 36),(1,7,.t 38)]) .read 2,nK 40 (.buildSlice 100 8 (.agg [.int .i64 0,.int .i64 0,.int .i64 0,.int .i64 0,.int .i64 0,.int .i64 0,.nsl,.nsl]) 1 [(0,.t 39)]) .create 0,nK 7 (.move (.t 40)) .read 4])
 .ret)))))}
theorem c60:aE Tryz.prog Tryz.f60 .frz=some t60:=by kernel_rfl
def t61:aQ:={ntmps:=17,results:=[(.cell 6 (some 6)),.t 7],mode:=.frz,body :=
 (oQ [oW 3 (.box 36 6 (.t 0)),oW 5 (.box 44 7 (.t 2)),oW 6 (.alloc 36 6 (.agg [.int .i64 0,.nsl,.nsl,.nsl,.nsl,.nsl])),oW 7 (.move (.c .nsl))]
 (oQ [oL 8 6 3,oA 9 1 5,oL 10 2 9,oA 11 3 5,oL 12 2 11,oM 13 1,oW 14 (.call (oF 98) [.t 8,.t 10,.t 12,.t 13]),oX 15 14 0,oX 16 14 1,oS 6 6 15,oM 7 16]
 .ret))}
theorem c61:aE Tryz.prog Tryz.f61 .frz=some t61:=by kernel_rfl
def AbI:aN :=
 (oQ [oW 47 (.arith .lss (.t 46) (.t 45))]
 (.seq (.cond (.t 47) .skip (.exit 2))
 (.seq (.block 3 (oQ [oW 48 (.indexAddr 7 (.t 44) (.t 46)),oL 49 7 48,oW 14 (.alloc 114 7 (.agg [.int .i64 0,.int .i64 0,.int .i64 0,.int .i64 0,.nsl,.int .i64 0,.bool false])),oS 7 14 49]
 (.region [oM 50 12,oM 51 50,gA 52 0 14 51 false,gL 53 2 52 51 false,gA 54 1 5 51 false,gL 55 2 54 51 false,gW 56 (.eqa false [1,1] (.t 53) (.t 55)) 51 false,gM 57 56 51 false,gA 58 5 14 57 true,gD 59 58 57 true,gM 60 11 57 true,gW 61 (.arith .eql (.t 59) (.t 60)) 57 true,gW 62 (.pick (.t 57) (.t 61) (oB false)) 51 false,gM 63 62 51 false,gA 64 4 14 63 true,gD 65 64 63 true,gA 66 6 5 63 true,gD 67 66 63 true,gW 68 (.call (oF 128) [.t 65,.t 67]) 63 true,gW 69 (.pick (.t 63) (.t 68) (oB false)) 51 false,oW 70 (.pick (.t 51) (oB true) (.t 69)),oM 12 70])))
 (.region [oW 71 (.arith .add (.t 46) (oI 1)),oM 46 71]))))
def AcE:aN :=
 (oQ [oM 72 12]
 (.cond (.t 72) (.region [oM 73 9,oM 74 11,oL 75 7 5,oW 76 (.build [.int .i64 0,.int .i64 0,.int .i64 0,.int .i64 0,.int .i64 0,.int .i64 0,.nsl,.nsl] [(0,1,.t 74),(1,7,.t 75)]),oW 77 (.buildSlice 100 8 (.agg [.int .i64 0,.int .i64 0,.int .i64 0,.int .i64 0,.int .i64 0,.int .i64 0,.nsl,.nsl]) 1 [(0,.t 76)]),oW 78 (.append 100 8 96 (.t 73) (.t 77)),oM 9 78]) .skip))
def AcD:aN :=
 (.region [oW 79 (.arith .add (.t 39) (oI 1)),oM 39 79])
def AbH:aN :=
 (oQ [oW 40 (.arith .lss (.t 39) (.t 38))]
 (.seq (.cond (.t 40) .skip (.exit 0))
 (.seq (.block 1 (oQ [oW 41 (.indexAddr 1 (.t 37) (.t 39)),oD 42 41,oM 11 42]
 (oQ [oW 12 (.move (oB false))]
 (.seq (oQ [oA 43 4 3,oD 44 43,oW 45 (.len 1 (.t 44)),oW 46 (.move (oI 0))]
 (.block 2 (.loop AbI)))
 AcE))))
 AcD)))
def AbG:aN :=
 (oQ [oW 87 (.arith .lss (.t 86) (.t 85))]
 (.seq (.cond (.t 87) .skip (.exit 6))
 (.seq (.block 7 (oQ [oW 88 (.indexAddr 3 (.t 84) (.t 86)),oL 89 3 88,oW 19 (.alloc 98 3 (.agg [.int .i64 0,.int .i64 0,.nsl])),oS 3 19 89]
 (.region [oM 90 17,oM 91 90,gA 92 0 19 91 false,gA 93 0 92 91 false,gD 94 93 91 false,gM 95 16 91 false,gW 96 (.arith .eql (.t 94) (.t 95)) 91 false,gM 97 96 91 false,gA 98 2 19 97 true,gD 99 98 97 true,gA 100 6 5 97 true,gD 101 100 97 true,gW 102 (.call (oF 128) [.t 99,.t 101]) 97 true,gW 103 (.pick (.t 97) (.t 102) (oB false)) 91 false,oW 104 (.pick (.t 91) (oB true) (.t 103)),oM 17 104])))
 (.region [oW 105 (.arith .add (.t 86) (oI 1)),oM 86 105]))))
def AcC:aN :=
 (oQ [oM 106 17]
 (.cond (.t 106) (.region [oM 107 15,oM 108 16,oA 109 3 5,oL 110 2 109,oA 111 6 5,oD 112 111,oW 113 (.build [.int .i64 0,.int .i64 0,.int .i64 0,.nsl] [(0,1,.t 108),(1,2,.t 110),(3,1,.t 112)]),oW 114 (.buildSlice 103 4 (.agg [.int .i64 0,.int .i64 0,.int .i64 0,.nsl]) 1 [(0,.t 113)]),oW 115 (.append 103 4 48 (.t 107) (.t 114)),oM 15 115]) .skip))
def AcB:aN :=
 (.region [oW 116 (.arith .add (.t 80) (oI 1)),oM 80 116])
def AbF:aN :=
 (oQ [oW 81 (.arith .lss (.t 80) (oI 32))]
 (.seq (.cond (.t 81) .skip (.exit 4))
 (.seq (.block 5 (oQ [oM 82 80,oM 16 82]
 (oQ [oW 17 (.move (oB false))]
 (.seq (oQ [oA 83 5 3,oD 84 83,oW 85 (.len 1 (.t 84)),oW 86 (.move (oI 0))]
 (.block 6 (.loop AbG)))
 AcC))))
 AcB)))
def AcA:aN :=
 (oQ [oM 117 9,oM 118 15,oM 6 117,oM 7 118]
 .ret)
def AbJ:aN :=
 (oQ [oW 15 (.move (.c .nsl))]
 (.seq (oQ [oW 80 (.move (oI 0))]
 (.block 4 (.loop AbF)))
 AcA))
def t62:aQ:={ntmps:=119,results:=[.t 6,.t 7],mode:=.pure,body :=
 (oQ [oW 3 (.box 36 6 (.t 0)),oW 5 (.box 44 7 (.t 2)),oW 6 (.move (.c .nsl)),oW 7 (.move (.c .nsl))]
 (oQ [oL 20 6 3,oA 21 1 5,oL 22 2 21,oW 23 (.call (oF 127) [.t 20,.t 22]),oM 8 23]
 (.seq (oQ [oM 24 8,oW 25 (.arith .lss (.t 24) (oI 0)),oM 26 25,gA 27 2 3 26 false,gD 28 27 26 false,gM 29 8 26 false,gW 30 (.indexAddr 4 (.t 28) (.t 29)) 26 false,gA 31 3 30 26 false,gD 32 31 26 false,gM 33 1 26 false,gW 34 (.arith .neq (.t 32) (.t 33)) 26 false,oW 35 (.pick (.t 26) (oB true) (.t 34))]
 (.cond (.t 35) (oQ [oW 6 (.move (.c .nsl)),oW 7 (.move (.c .nsl))]
 .ret) .skip))
 (oQ [oW 9 (.move (.c .nsl))]
 (.seq (oQ [oA 36 1 3,oD 37 36,oW 38 (.len 1 (.t 37)),oW 39 (.move (oI 0))]
 (.block 0 (.loop AbH)))
 AbJ)))))}
theorem c62:aE Tryz.prog Tryz.f62 .pure=some t62:=by kernel_rfl
def t63:aQ:={ntmps:=8,results:=[.t 2],mode:=.full,body :=
 (oQ [oW 2 (.move (.c .nilp))]
 (oQ [oW 3 (.buildSlice 5 1 (.int .u8 0) 0 []),oM 4 0,oW 5 (.append 5 1 1 (.t 3) (.t 4)),oW 6 (.build [.nsl,.bool false] [(0,1,.t 5)]),oW 7 (.box 193 2 (.t 6)),oM 2 7]
 .ret))}
theorem c63:aE Tryz.prog Tryz.f63 .full=some t63:=by kernel_rfl
def AbC:aN :=
 (.seq (oQ [oM 32 6,oW 33 (.arith .gtr (.t 32) (oI 0)),oM 34 33,gM 35 0 34 true,gW 36 (.call (oF 131) [.t 35]) 34 true,oW 37 (.pick (.t 34) (.t 36) (oB false))]
 (.cond (.t 37) .skip (.exit 0)))
 (.seq (.block 1 (.draw [oRA 40 5 3,oRD 41 40,oRM 42 0,nK 43 (.call (oF 132) [.t 42]) .create 0,nK 44 (.buildSlice 96 5 (.agg [.str [],.int .i64 0,.int .i64 0,.int .i64 0,.str []]) 1 [(0,.t 43)]) .create 0,nK 45 (.append 96 5 56 (.t 41) (.t 44)) .write 2,nK 46 (.fieldAddr 5 (.t 3)) .read 3,⟨none,.store 1 (.t 46) (.t 45),none,.write,3,false⟩]))
 (.region [oM 38 6,oW 39 (.arith .sub (.t 38) (oI 1)),oM 6 39])))
def AbB:aN :=
 (.seq (oQ [oM 53 7,oW 54 (.arith .gtr (.t 53) (oI 0)),oM 55 54,gM 56 0 55 true,gW 57 (.call (oF 131) [.t 56]) 55 true,oW 58 (.pick (.t 55) (.t 57) (oB false))]
 (.cond (.t 58) .skip (.exit 2)))
 (.seq (.block 3 (.draw [oRA 61 6 3,oRD 62 61,oRM 63 0,nK 64 (.call (oF 133) [.t 63]) .create 0,nK 65 (.buildSlice 108 4 (.agg [.str [],.bool false,.int .i64 0,.str []]) 1 [(0,.t 64)]) .create 0,nK 66 (.append 108 4 48 (.t 62) (.t 65)) .write 2,nK 67 (.fieldAddr 6 (.t 3)) .read 3,⟨none,.store 1 (.t 67) (.t 66),none,.write,3,false⟩]))
 (.region [oM 59 7,oW 60 (.arith .sub (.t 59) (oI 1)),oM 7 60])))
def AbE:aN :=
 (oQ [oL 68 7 3,oS 7 2 68]
 .ret)
def AbD:aN :=
 (.seq (oQ [oM 47 4,oW 48 (.arith .and (.t 47) (oI 4)),oW 49 (.arith .neq (.t 48) (oI 0))]
 (.cond (.t 49) (oQ [oM 50 0,oW 51 (.call (oF 129) [.t 50]),oW 52 (.conv .i64 (.t 51)),oM 7 52]
 (.block 2 (.loop AbB))) .skip))
 AbE)
def t64:aQ:={ntmps:=69,results:=[(.cell 2 (some 7))],mode:=.full,body :=
 (oQ [oW 2 (.alloc 44 7 (.agg [.int .i64 0,.int .i64 0,.int .i64 0,.int .i64 0,.int .i64 0,.nsl,.nsl]))]
 (oQ [oM 8 0,oW 9 (.call (oF 129) [.t 8]),oW 10 (.conv .i64 (.t 9)),oM 11 0,oW 12 (.call (oF 130) [.t 11]),oW 13 (.build [.int .i64 0,.int .i64 0,.int .i64 0,.int .i64 0,.int .i64 0,.nsl,.nsl] [(0,1,.t 10),(1,2,.t 12)]),oW 3 (.alloc 44 7 (.agg [.int .i64 0,.int .i64 0,.int .i64 0,.int .i64 0,.int .i64 0,.nsl,.nsl])),oS 7 3 13]
 (oQ [oA 15 0 3,oD 16 15,oW 17 (.call (oF 116) [.t 16]),oM 14 17,oX 18 14 0,oX 19 14 1,oM 4 18,oM 5 19]
 (.seq (oQ [oM 20 4,oW 21 (.arith .and (.t 20) (oI 1)),oW 22 (.arith .neq (.t 21) (oI 0))]
 (.cond (.t 22) (.region [oM 23 0,oW 24 (.call (oF 130) [.t 23]),oA 25 3 3,oS 2 25 24]) .skip))
 (.seq (oQ [oM 26 4,oW 27 (.arith .and (.t 26) (oI 2)),oW 28 (.arith .neq (.t 27) (oI 0))]
 (.cond (.t 28) (oQ [oM 29 0,oW 30 (.call (oF 129) [.t 29]),oW 31 (.conv .i64 (.t 30)),oM 6 31]
 (.block 0 (.loop AbC))) .skip))
 AbD)))))}
theorem c64:aE Tryz.prog Tryz.f64 .full=some t64:=by kernel_rfl
def t65:aQ:={ntmps:=16,results:=[.t 2],mode:=.full,body :=
 (oQ [oW 2 (.move (oB false))]
 (oQ [oM 3 0,oW 4 (.nilCheck (.t 3)),oA 5 1 4,oD 6 5,oW 7 (.un .not (.t 6)),oM 8 7,gM 9 0 8 true,gW 10 (.nilCheck (.t 9)) 8 true,gA 11 0 10 8 true,gD 12 11 8 true,gW 13 (.len 1 (.t 12)) 8 true,gW 14 (.arith .eql (.t 13) (oI 0)) 8 true,oW 15 (.pick (.t 8) (.t 14) (oB false)),oM 2 15]
 .ret))}
theorem c65:aE Tryz.prog Tryz.f65 .full=some t65:=by kernel_rfl
def t66:aQ:={ntmps:=10,results:=[.t 4],mode:=.pure,body :=
 (oQ [oW 4 (.move (oB false))]
 (oQ [oM 5 0,oW 6 (.extract (.c .nilp) 0),oM 7 1,oW 8 (.extract (.c .nilp) 0),oW 9 (.arith .eql (.t 6) (.t 8)),oM 4 9]
 .ret))}
theorem c66:aE Tryz.prog Tryz.f66 .pure=some t66:=by kernel_rfl
def t70:aQ:={ntmps:=9,results:=[.t 4],mode:=.pure,body :=
 (oQ [oW 2 (.box 40 2 (.t 0)),oW 3 (.box 40 2 (.t 1)),oW 4 (.move (oB false))]
 (oQ [oL 5 2 2,oL 6 2 3,oW 7 (.call (oF 78) [.t 5,.t 6]),oW 8 (.arith .lss (.t 7) (oI 0)),oM 4 8]
 .ret))}
theorem c70:aE Tryz.prog Tryz.f70 .pure=some t70:=by kernel_rfl
def Y3:aN :=
 (oQ [oW 9 (.arith .lss (.t 8) (.t 7))]
 (.seq (.cond (.t 9) .skip (.exit 0))
 (.seq (.block 1 (oQ [oW 10 (.indexAddr 1 (.t 6) (.t 8)),oD 11 10,oM 5 11]
 (oQ [oM 12 5,oM 13 3,oW 14 (.arith .neq (.t 12) (.t 13))]
 (.cond (.t 14) (oQ [oM 15 5,oM 2 15]
 .ret) .skip))))
 (.region [oW 16 (.arith .add (.t 8) (oI 1)),oM 8 16]))))
def VN:aN :=
 (oQ [oM 17 3,oM 2 17]
 .ret)
def t77:aQ:={ntmps:=18,results:=[.t 2],mode:=.pure,body :=
 (oQ [oW 2 (.move (oI 0))]
 (oQ [oW 3 (.move (oI 0))]
 (.seq (oQ [oM 6 0,oW 7 (.len 1 (.t 6)),oW 8 (.move (oI 0))]
 (.block 0 (.loop Y3)))
 VN)))}
theorem c77:aE Tryz.prog Tryz.f77 .pure=some t77:=by kernel_rfl
def t78:aQ:={ntmps:=17,results:=[.t 4],mode:=.pure,body :=
 (oQ [oW 2 (.box 40 2 (.t 0)),oW 3 (.box 40 2 (.t 1)),oW 4 (.move (oI 0))]
 (.seq (.draw [oRA 5 0 2,oRD 6 5,oRA 7 0 3,oRD 8 7,nK 9 (.call (oF 134) [.t 6,.t 8]) .create 0,oRA 10 1 2,oRD 11 10,oRA 12 1 3,oRD 13 12,nK 14 (.call (oF 134) [.t 11,.t 13]) .write 1,nK 15 (.buildSlice 3 1 (.int .i64 0) 2 [(0,.t 9),(1,.t 14)]) .create 0,nK 16 (.call (oF 77) [.t 15]) .write 3,nK 4 (.move (.t 16)) .read 4])
 .ret))}
theorem c78:aE Tryz.prog Tryz.f78 .pure=some t78:=by kernel_rfl
def AaJ:aN :=
 (oQ [oW 8 (.arith .lss (.t 7) (.t 6))]
 (.seq (.cond (.t 8) .skip (.exit 0))
 (.seq (.block 1 (oQ [oM 9 7,oW 10 (.indexAddr 5 (.t 5) (.t 7)),oL 11 5 10,oW 4 (.alloc 96 5 (.agg [.str [],.int .i64 0,.int .i64 0,.int .i64 0,.str []])),oM 3 9,oS 5 4 11]
 (.seq (.draw [oRL 12 5 4,oW 13 (.call (oF 138) [.t 12]),nK 14 (.un .not (.t 13)) .read 1,nK 15 (.move (.t 14)) .read 1,⟨(some 16),.move (.t 3),(some (15,false)),.read,1,false⟩,⟨(some 17),.arith .gtr (.t 16) (oI 0),(some (15,false)),.read,1,false⟩,⟨(some 18),.move (.t 17),(some (15,false)),.read,1,false⟩,⟨(some 19),.move (.t 0),(some (18,true)),.read,1,false⟩,⟨(some 20),.move (.t 3),(some (18,true)),.read,1,false⟩,⟨(some 21),.arith .sub (.t 20) (oI 1),(some (18,true)),.read,1,false⟩,⟨(some 22),.indexAddr 5 (.t 19) (.t 21),(some (18,true)),.read,1,false⟩,⟨(some 23),.fieldAddr 0 (.t 22),(some (18,true)),.read,1,false⟩,⟨(some 24),.load none (.t 23),(some (18,true)),.read,1,false⟩,⟨(some 25),.fieldAddr 0 (.t 4),(some (18,true)),.read,1,false⟩,⟨(some 26),.load none (.t 25),(some (18,true)),.read,1,false⟩,⟨(some 27),.arith .geq (.t 24) (.t 26),(some (18,true)),.read,1,false⟩,⟨(some 28),.pick (.t 18) (.t 27) (oB false),(some (15,false)),.read,1,false⟩,nK 29 (.pick (.t 15) (oB true) (.t 28)) .read 1])
 (.cond (.t 29) (oQ [oW 2 (.move (oB false))]
 .ret) .skip))))
 (.region [oW 30 (.arith .add (.t 7) (oI 1)),oM 7 30]))))
def AbA:aN :=
 (oQ [oM 31 0,oW 32 (.len 1 (.t 31)),oW 33 (.arith .leq (.t 32) (oI 5)),oM 2 33]
 .ret)
def t83:aQ:={ntmps:=34,results:=[.t 2],mode:=.pure,body :=
 (oQ [oW 2 (.move (oB false))]
 (.seq (oQ [oM 5 0,oW 6 (.len 1 (.t 5)),oW 7 (.move (oI 0))]
 (.block 0 (.loop AaJ)))
 AbA))}
theorem c83:aE Tryz.prog Tryz.f83 .pure=some t83:=by kernel_rfl
def t84:aQ:={ntmps:=9,results:=[.t 4],mode:=.pure,body :=
 (oQ [oW 4 (.move (oB false))]
 (oQ [oM 5 0,oM 6 1,oW 7 (.call (oF 139) [.t 5,.t 6]),oW 8 (.arith .geq (.t 7) (oI 0)),oM 4 8]
 .ret))}
theorem c84:aE Tryz.prog Tryz.f84 .pure=some t84:=by kernel_rfl
def t89:aQ:={ntmps:=22,results:=[(.cell 4 (some 4)),.t 5],mode:=.pure,body :=
 (oQ [oW 2 (.box 36 6 (.t 0)),oW 3 (.box 40 2 (.t 1)),oW 4 (.alloc 93 4 (.agg [.int .i64 0,.int .i64 0,.nsl,.int .i64 0])),oW 5 (.move (oB false))]
 (oQ [oL 9 6 2,oL 10 2 3,oW 11 (.call (oF 141) [.t 9,.t 10]),oM 8 11,oX 12 8 0,oX 13 8 1,oM 6 12,oM 7 13]
 (.seq (oQ [oM 14 7,oW 15 (.un .not (.t 14))]
 (.cond (.t 15) (oQ [oW 16 (.build [.int .i64 0,.int .i64 0,.nsl,.int .i64 0] []),oS 4 4 16,oW 5 (.move (oB false))]
 .ret) .skip))
 (oQ [oA 17 2 2,oD 18 17,oM 19 6,oW 20 (.indexAddr 4 (.t 18) (.t 19)),oL 21 4 20,oS 4 4 21,oW 5 (.move (oB true))]
 .ret))))}
theorem c89:aE Tryz.prog Tryz.f89 .pure=some t89:=by kernel_rfl
def t90:aQ:={ntmps:=12,results:=[.t 6],mode:=.pure,body :=
 (oQ [oW 3 (.box 36 6 (.t 0)),oW 4 (.box 40 2 (.t 1)),oW 5 (.box 41 1 (.t 2)),oW 6 (.move (oB false))]
 (oQ [oL 7 6 3,oL 8 2 4,oW 9 (.call (oF 142) [.t 7,.t 8]),oW 10 (.makeFunc 143 [.t 5]),oW 11 (.call (oF 84) [.t 9,.t 10]),oM 6 11]
 .ret))}
theorem c90:aE Tryz.prog Tryz.f90 .pure=some t90:=by kernel_rfl
def t91:aQ:={ntmps:=2,results:=[.t 0],mode:=.pure,body :=
 (oQ [oW 0 (.move (.c .nsl))]
 (oQ [oW 1 (.buildSlice 9 1 (.str []) 7 [(0,(.c (.str [97]))),(1,(.c (.str [98]))),(2,(.c (.str [99]))),(3,(.c (.str [100]))),(4,(.c (.str [101]))),(5,(.c (.str [102]))),(6,(.c (.str [103])))]),oM 0 1]
 .ret))}
theorem c91:aE Tryz.prog Tryz.f91 .pure=some t91:=by kernel_rfl
def t92:aQ:={ntmps:=44,results:=[(.cell 4 (some 5))],mode:=.pure,body :=
 (oQ [oW 4 (.alloc 96 5 (.agg [.str [],.int .i64 0,.int .i64 0,.int .i64 0,.str []]))]
 (oQ [oM 6 0,oW 7 (.build [.str [],.int .i64 0,.int .i64 0,.int .i64 0,.str []] [(0,1,.t 6)]),oW 5 (.alloc 96 5 (.agg [.str [],.int .i64 0,.int .i64 0,.int .i64 0,.str []])),oS 5 5 7]
 (.seq (oQ [oM 8 1,oW 9 (.call (oF 8) [.t 8,oI 0,oI 3])]
 (.block 0 (.seq (oQ [oW 19 (.arith .eql (.t 9) (oI 0)),oM 18 19]
 (.cond (.t 18) .skip (.region [oW 20 (.arith .eql (.t 9) (oI 1)),oM 18 20])))
 (.cond (.t 18) (oQ [oM 21 1,oW 22 (.arith .quo (.t 21) (oI 4)),oW 23 (.call (oF 8) [.t 22,oI 0,oI 9]),oA 24 1 5,oZ (.store 1 (.t 24) (oI 1)),oA 25 2 5,oS 1 25 23]
 (.draw [oRA 26 2 5,oRD 27 26,oRM 28 1,oR 29 (.arith .quo (.t 28) (oI 40)),nK 30 (.call (oF 8) [.t 29,oI 0,oI 9]) .create 0,nK 31 (.arith .add (.t 27) (.t 30)) .read 1,nK 32 (.fieldAddr 3 (.t 5)) .read 1,⟨none,.store 1 (.t 32) (.t 31),none,.write,1,false⟩])) (oQ [oW 34 (.arith .eql (.t 9) (oI 2)),oM 33 34]
 (.cond (.t 33) (.draw [oW 35 (.call (oF 145) []),oRM 36 1,oR 37 (.arith .quo (.t 36) (oI 4)),nK 38 (.call (oF 8) [.t 37,oI 0,oI 6]) .write 1,nK 39 (.indexAddr 1 (.t 35) (.t 38)) .read 2,nK 40 (.load none (.t 39)) .read 2,oRA 41 1 5,⟨none,.store 1 (.t 41) (oI 2),none,.create,2,false⟩,nK 42 (.fieldAddr 4 (.t 5)) .read 3,⟨none,.store 1 (.t 42) (.t 40),none,.write,3,false⟩]) (.draw [oW 10 (.call (oF 145) []),oRM 11 1,oR 12 (.arith .quo (.t 11) (oI 4)),nK 13 (.call (oF 8) [.t 12,oI 0,oI 6]) .write 1,nK 14 (.indexAddr 1 (.t 10) (.t 13)) .read 2,nK 15 (.load none (.t 14)) .read 2,oRA 16 1 5,⟨none,.store 1 (.t 16) (oI 3),none,.create,2,false⟩,nK 17 (.fieldAddr 4 (.t 5)) .read 3,⟨none,.store 1 (.t 17) (.t 15),none,.write,3,false⟩])))))))
 (oQ [oL 43 5 5,oS 5 4 43]
 .ret))))}
theorem c92:aE Tryz.prog Tryz.f92 .pure=some t92:=by kernel_rfl
def t93:aQ:={ntmps:=15,results:=[.t 4],mode:=.pure,body :=
 (oQ [oW 4 (.move (oI 0))]
 (.seq (oQ [oM 5 0,oW 6 (.len 1 (.t 5)),oW 7 (.arith .eql (.t 6) (oI 0))]
 (.cond (.t 7) (oQ [oW 4 (.move (oI 0))]
 .ret) .skip))
 (oQ [oM 8 0,oM 9 1,oM 10 0,oW 11 (.len 1 (.t 10)),oW 12 (.arith .rem (.t 9) (.t 11)),oW 13 (.indexAddr 1 (.t 8) (.t 12)),oD 14 13,oM 4 14]
 .ret)))}
theorem c93:aE Tryz.prog Tryz.f93 .pure=some t93:=by kernel_rfl
def t94:aQ:={ntmps:=24,results:=[.t 4],mode:=.pure,body :=
 (oQ [oW 2 (.box 40 2 (.t 0)),oW 3 (.box 40 2 (.t 1)),oW 4 (.move (oB false))]
 (oQ [oA 5 0 2,oD 6 5,oA 7 0 3,oD 8 7,oW 9 (.arith .lss (.t 6) (.t 8)),oM 10 9,gA 11 0 2 10 false,gD 12 11 10 false,gA 13 0 3 10 false,gD 14 13 10 false,gW 15 (.arith .eql (.t 12) (.t 14)) 10 false,gM 16 15 10 false,gA 17 1 2 16 true,gD 18 17 16 true,gA 19 1 3 16 true,gD 20 19 16 true,gW 21 (.arith .lss (.t 18) (.t 20)) 16 true,gW 22 (.pick (.t 16) (.t 21) (oB false)) 10 false,oW 23 (.pick (.t 10) (oB true) (.t 22)),oM 4 23]
 .ret))}
theorem c94:aE Tryz.prog Tryz.f94 .pure=some t94:=by kernel_rfl
def t95:aQ:={ntmps:=22,results:=[.t 4],mode:=.pure,body :=
 (oQ [oW 4 (.move (oB false))]
 (oQ [oW 8 (.buildSlice 96 5 (.agg [.str [],.int .i64 0,.int .i64 0,.int .i64 0,.str []]) 0 []),oM 9 0,oW 10 (.append 96 5 56 (.t 8) (.t 9)),oM 11 1,oW 12 (.append 96 5 56 (.t 10) (.t 11)),oW 13 (.call (oF 146) [.t 12]),oM 7 13,oX 14 7 0,oX 15 7 1,oM 5 14,oM 6 15]
 (oQ [oM 16 6,oM 17 16,gM 18 5 17 true,gW 19 (.len 1 (.t 18)) 17 true,gW 20 (.arith .leq (.t 19) (oI 5)) 17 true,oW 21 (.pick (.t 17) (.t 20) (oB false)),oM 4 21]
 .ret)))}
theorem c95:aE Tryz.prog Tryz.f95 .pure=some t95:=by kernel_rfl
def Io:aN :=
 (.seq (.seq (.draw [oRA 58 4 2,oRD 59 58,oRM 57 7,oR 60 (.len 1 (.t 59)),oR 61 (.arith .lss (.t 57) (.t 60)),oRM 62 61,rA 63 4 2 62 true,rD 64 63 62 true,rM 65 7 62 true,rW 66 (.indexAddr 7 (.t 64) (.t 65)) 62 true,rA 67 0 66 62 true,rL 68 2 67 62 true,rA 69 0 3 62 true,rL 70 2 69 62 true,gW 71 (.call (oF 94) [.t 68,.t 70]) 62 true,⟨(some 72),.move (.t 71),(some (62,true)),.read,1,false⟩,⟨(some 73),.fieldAddr 4 (.t 2),(some (72,false)),.read,1,false⟩,⟨(some 74),.load none (.t 73),(some (72,false)),.read,1,false⟩,⟨(some 75),.move (.t 7),(some (72,false)),.read,1,false⟩,⟨(some 76),.indexAddr 7 (.t 74) (.t 75),(some (72,false)),.read,1,false⟩,⟨(some 77),.fieldAddr 0 (.t 76),(some (72,false)),.read,1,false⟩,⟨(some 78),.load (some 2) (.t 77),(some (72,false)),.read,1,false⟩,⟨(some 79),.fieldAddr 0 (.t 3),(some (72,false)),.read,1,false⟩,⟨(some 80),.load (some 2) (.t 79),(some (72,false)),.read,1,false⟩,⟨(some 81),.eqa false [1,1] (.t 78) (.t 80),(some (72,false)),.read,1,false⟩,⟨(some 82),.move (.t 81),(some (72,false)),.read,1,false⟩,⟨(some 83),.fieldAddr 4 (.t 2),(some (82,true)),.read,1,false⟩,⟨(some 84),.load none (.t 83),(some (82,true)),.read,1,false⟩,⟨(some 85),.move (.t 7),(some (82,true)),.read,1,false⟩,⟨(some 86),.indexAddr 7 (.t 84) (.t 85),(some (82,true)),.read,1,false⟩,⟨(some 87),.fieldAddr 2 (.t 86),(some (82,true)),.read,1,false⟩,⟨(some 88),.load (some 2) (.t 87),(some (82,true)),.read,1,false⟩,⟨(some 89),.fieldAddr 2 (.t 3),(some (82,true)),.read,1,false⟩,⟨(some 90),.load (some 2) (.t 89),(some (82,true)),.read,1,false⟩,⟨(some 91),.call (oF 94) [.t 88,.t 90],(some (82,true)),.write,1,false⟩,⟨(some 92),.pick (.t 82) (.t 91) (oB false),(some (72,false)),.read,2,false⟩,⟨(some 93),.pick (.t 72) (oB true) (.t 92),(some (62,true)),.read,2,false⟩,nK 94 (.pick (.t 62) (.t 93) (oB false)) .read 2])
 (.cond (.t 94) .skip (.exit 0)))
 (.block 1 (.region [oM 95 7,oW 96 (.arith .add (.t 95) (oI 1)),oM 7 96])))
def Fp:aN :=
 (.seq (.draw [oRA 98 4 2,oRD 99 98,oRM 100 7,oR 101 (.sliceSl 7 (.t 99) none (some (.t 100))),nK 97 (.buildSlice 114 7 (.agg [.int .i64 0,.int .i64 0,.int .i64 0,.int .i64 0,.nsl,.int .i64 0,.bool false]) 0 []) .create 0,nK 102 (.append 114 7 72 (.t 97) (.t 101)) .create 0,oRL 103 7 3,nK 104 (.buildSlice 114 7 (.agg [.int .i64 0,.int .i64 0,.int .i64 0,.int .i64 0,.nsl,.int .i64 0,.bool false]) 1 [(0,.t 103)]) .create 0,nK 105 (.append 114 7 72 (.t 102) (.t 104)) .create 0,oRA 106 4 2,oRD 107 106,oRM 108 7,oR 109 (.sliceSl 7 (.t 107) (some (.t 108)) none),nK 110 (.append 114 7 72 (.t 105) (.t 109)) .write 4,nK 111 (.fieldAddr 4 (.t 2)) .read 5,⟨none,.store 1 (.t 111) (.t 110),none,.write,5,false⟩])
 (.seq (.draw [⟨(some 112),.load (some 6) (.t 2),none,.read,0,true⟩,oRA 113 6 3,oRD 114 113,⟨none,.store 6 (.t 4) (.t 112),none,.create,0,false⟩,nK 5 (.move (.t 114)) .read 1])
 .ret))
def t96:aQ:={ntmps:=115,results:=[(.cell 4 (some 6)),.t 5],mode:=.frz,body :=
 (oQ [oW 2 (.box 36 6 (.t 0)),oW 3 (.box 114 7 (.t 1)),oW 4 (.alloc 36 6 (.agg [.int .i64 0,.nsl,.nsl,.nsl,.nsl,.nsl])),oW 5 (.move (oB false))]
 (oQ [oL 8 6 2,oA 9 0 3,oL 10 2 9,oW 11 (.call (oF 127) [.t 8,.t 10]),oM 6 11]
 (.seq (.seq (.draw [oRM 12 6,oR 13 (.arith .lss (.t 12) (oI 0)),oRM 14 13,rL 15 6 2 14 false,rA 16 0 3 14 false,rL 17 2 16 14 false,rA 18 2 3 14 false,rL 19 2 18 14 false,gW 20 (.call (oF 147) [.t 15,.t 17,.t 19]) 14 false,⟨(some 21),.arith .geq (.t 20) (oI 0),(some (14,false)),.read,1,false⟩,nK 22 (.pick (.t 14) (oB true) (.t 21)) .read 1,nK 23 (.move (.t 22)) .read 1,⟨(some 24),.fieldAddr 5 (.t 3),(some (23,false)),.read,1,false⟩,⟨(some 25),.load none (.t 24),(some (23,false)),.read,1,false⟩,⟨(some 26),.arith .neq (.t 25) (oI (-1)),(some (23,false)),.read,1,false⟩,⟨(some 27),.move (.t 26),(some (23,false)),.read,1,false⟩,⟨(some 28),.fieldAddr 5 (.t 3),(some (27,true)),.read,1,false⟩,⟨(some 29),.load none (.t 28),(some (27,true)),.read,1,false⟩,⟨(some 30),.fieldAddr 2 (.t 2),(some (27,true)),.read,1,false⟩,⟨(some 31),.load none (.t 30),(some (27,true)),.read,1,false⟩,⟨(some 32),.move (.t 6),(some (27,true)),.read,1,false⟩,⟨(some 33),.indexAddr 4 (.t 31) (.t 32),(some (27,true)),.read,1,false⟩,⟨(some 34),.fieldAddr 3 (.t 33),(some (27,true)),.read,1,false⟩,⟨(some 35),.load none (.t 34),(some (27,true)),.read,1,false⟩,⟨(some 36),.arith .eql (.t 29) (.t 35),(some (27,true)),.read,1,false⟩,⟨(some 37),.pick (.t 27) (.t 36) (oB false),(some (23,false)),.read,1,false⟩,nK 38 (.pick (.t 23) (oB true) (.t 37)) .read 1])
 (.cond (.t 38) (oQ [oL 39 6 2,oS 6 4 39,oW 5 (.move (oB false))]
 .ret) .skip))
 (oQ [oA 40 2 2,oD 41 40,oM 42 6,oW 43 (.indexAddr 4 (.t 41) (.t 42)),oA 44 3 43,oD 45 44,oW 46 (.arith .neq (.t 45) (oI (-1))),oM 47 46,gL 48 6 2 47 true,gA 49 0 3 47 true,gL 50 2 49 47 true,gA 51 4 3 47 true,gD 52 51 47 true,gW 53 (.call (oF 148) [.t 48,.t 50,.t 52]) 47 true,gW 54 (.un .not (.t 53)) 47 true,oW 55 (.pick (.t 47) (.t 54) (oB false)),oA 56 6 3,oS 1 56 55]
 (oQ [oW 7 (.move (oI 0))]
 (.seq (.block 0 (.loop Io))
 Fp))))))}
theorem c96:aE Tryz.prog Tryz.f96 .frz=some t96:=by kernel_rfl
def t97:aQ:={ntmps:=10,results:=[(.cell 2 (some 7))],mode:=.pure,body :=
 (oQ [oW 1 (.box 114 7 (.t 0)),oW 2 (.alloc 44 7 (.agg [.int .i64 0,.int .i64 0,.int .i64 0,.int .i64 0,.int .i64 0,.nsl,.nsl]))]
 (oQ [oA 3 0 1,oL 4 2 3,oA 5 2 1,oL 6 2 5,oA 7 4 1,oD 8 7,oW 9 (.build [.int .i64 0,.int .i64 0,.int .i64 0,.int .i64 0,.int .i64 0,.nsl,.nsl] [(0,1,oI 3),(1,2,.t 4),(3,2,.t 6),(5,1,.t 8)]),oS 7 2 9]
 .ret))}
theorem c97:aE Tryz.prog Tryz.f97 .pure=some t97:=by kernel_rfl
def Y2:aN :=
 (oQ [oW 39 (.arith .lss (.t 38) (.t 37))]
 (.seq (.cond (.t 39) .skip (.exit 0))
 (.seq (.block 1 (oQ [oW 40 (.indexAddr 7 (.t 36) (.t 38)),oL 41 7 40,oW 15 (.alloc 114 7 (.agg [.int .i64 0,.int .i64 0,.int .i64 0,.int .i64 0,.nsl,.int .i64 0,.bool false])),oS 7 15 41]
 (.region [oM 42 13,oM 43 12,oL 44 7 15,oW 45 (.call (oF 97) [.t 44]),oW 46 (.build [.int .i64 0,.int .i64 0,.int .i64 0,.int .i64 0,.int .i64 0,.int .i64 0,.nsl,.nsl] [(0,1,.t 43),(1,7,.t 45)]),oW 47 (.buildSlice 100 8 (.agg [.int .i64 0,.int .i64 0,.int .i64 0,.int .i64 0,.int .i64 0,.int .i64 0,.nsl,.nsl]) 1 [(0,.t 46)]),oW 48 (.append 100 8 96 (.t 42) (.t 47)),oM 13 48])))
 (.region [oW 49 (.arith .add (.t 38) (oI 1)),oM 38 49]))))
def Vu:aN :=
 (.seq (.draw [oRL 50 6 4,oRL 53 2 5,oRL 54 2 6,oRM 51 13,oRM 52 12,oR 55 (.build [.int .i64 0,.int .i64 0,.int .i64 0,.int .i64 0,.int .i64 0,.nsl,.nsl] [(0,1,oI 4),(1,2,.t 53),(3,2,.t 54)]),oR 56 (.build [.int .i64 0,.int .i64 0,.int .i64 0,.int .i64 0,.int .i64 0,.int .i64 0,.nsl,.nsl] [(0,1,.t 52),(1,7,.t 55)]),nK 57 (.buildSlice 100 8 (.agg [.int .i64 0,.int .i64 0,.int .i64 0,.int .i64 0,.int .i64 0,.int .i64 0,.nsl,.nsl]) 1 [(0,.t 56)]) .create 0,nK 58 (.append 100 8 96 (.t 51) (.t 57)) .create 0,⟨none,.store 6 (.t 8) (.t 50),none,.write,2,false⟩,nK 9 (.move (.t 58)) .read 3])
 .ret)
def t98:aQ:={ntmps:=59,results:=[(.cell 8 (some 6)),.t 9],mode:=.frz,body :=
 (oQ [oW 4 (.box 36 6 (.t 0)),oW 5 (.box 40 2 (.t 1)),oW 6 (.box 40 2 (.t 2)),oW 8 (.alloc 36 6 (.agg [.int .i64 0,.nsl,.nsl,.nsl,.nsl,.nsl])),oW 9 (.move (.c .nsl))]
 (oQ [oL 17 6 4,oL 18 2 5,oL 19 2 6,oM 20 3,oW 21 (.call (oF 149) [.t 17,.t 18,.t 19,.t 20]),oM 16 21,oX 22 16 0,oX 23 16 1,oX 24 16 2,oS 6 4 22,oM 10 23,oM 11 24]
 (.seq (oQ [oM 25 11,oW 26 (.un .not (.t 25))]
 (.cond (.t 26) (oQ [oL 27 6 4,oS 6 8 27,oW 9 (.move (.c .nsl))]
 .ret) .skip))
 (.seq (.draw [oRA 28 2 4,oRD 29 28,oRL 30 6 4,oRL 31 2 5,nK 32 (.call (oF 127) [.t 30,.t 31]) .create 0,nK 33 (.indexAddr 4 (.t 29) (.t 32)) .read 1,nK 34 (.fieldAddr 3 (.t 33)) .read 1,nK 35 (.load none (.t 34)) .read 1,nK 12 (.move (.t 35)) .read 1])
 (oQ [oW 13 (.move (.c .nsl))]
 (.seq (oQ [oM 36 10,oW 37 (.len 1 (.t 36)),oW 38 (.move (oI 0))]
 (.block 0 (.loop Y2)))
 Vu))))))}
theorem c98:aE Tryz.prog Tryz.f98 .frz=some t98:=by kernel_rfl
def X9:aN :=
 (.seq (.seq (.draw [oRA 13 3 2,oRD 14 13,oRM 12 6,oR 15 (.len 1 (.t 14)),oR 16 (.arith .lss (.t 12) (.t 15)),oRM 17 16,rA 18 3 2 17 true,rD 19 18 17 true,rM 20 6 17 true,rW 21 (.indexAddr 2 (.t 19) (.t 20)) 17 true,rL 22 2 21 17 true,rA 23 0 3 17 true,rL 24 2 23 17 true,gW 25 (.call (oF 94) [.t 22,.t 24]) 17 true,nK 26 (.pick (.t 17) (.t 25) (oB false)) .read 1])
 (.cond (.t 26) .skip (.exit 0)))
 (.block 1 (.region [oM 27 6,oW 28 (.arith .add (.t 27) (oI 1)),oM 6 28])))
def X8:aN :=
 (.seq (.seq (.draw [oRA 46 2 2,oRD 47 46,oRM 45 6,oR 48 (.len 1 (.t 47)),oR 49 (.arith .lss (.t 45) (.t 48)),oRM 50 49,rA 51 2 2 50 true,rD 52 51 50 true,rM 53 6 50 true,rW 54 (.indexAddr 4 (.t 52) (.t 53)) 50 true,rA 55 0 54 50 true,rL 56 2 55 50 true,rA 57 0 3 50 true,rL 58 2 57 50 true,gW 59 (.call (oF 94) [.t 56,.t 58]) 50 true,nK 60 (.pick (.t 50) (.t 59) (oB false)) .read 1])
 (.cond (.t 60) .skip (.exit 2)))
 (.block 3 (.region [oM 61 6,oW 62 (.arith .add (.t 61) (oI 1)),oM 6 62])))
def Y1:aN :=
 (.seq (.draw [oRA 64 2 2,oRD 65 64,oRM 66 6,oR 67 (.sliceSl 4 (.t 65) none (some (.t 66))),nK 63 (.buildSlice 93 4 (.agg [.int .i64 0,.int .i64 0,.nsl,.int .i64 0]) 0 []) .create 0,nK 68 (.append 93 4 48 (.t 63) (.t 67)) .create 0,oRL 69 4 3,nK 70 (.buildSlice 93 4 (.agg [.int .i64 0,.int .i64 0,.nsl,.int .i64 0]) 1 [(0,.t 69)]) .create 0,nK 71 (.append 93 4 48 (.t 68) (.t 70)) .create 0,oRA 72 2 2,oRD 73 72,oRM 74 6,oR 75 (.sliceSl 4 (.t 73) (some (.t 74)) none),nK 76 (.append 93 4 48 (.t 71) (.t 75)) .write 4,nK 77 (.fieldAddr 2 (.t 2)) .read 5,⟨none,.store 1 (.t 77) (.t 76),none,.write,5,false⟩])
 (oQ [oL 78 6 2,oS 6 4 78,oW 5 (.move (oB true))]
 .ret))
def Y0:aN :=
 (.seq (.draw [oRA 30 3 2,oRD 31 30,oRM 32 6,oR 33 (.sliceSl 2 (.t 31) none (some (.t 32))),nK 29 (.buildSlice 40 2 (.agg [.int .i64 0,.int .i64 0]) 0 []) .create 0,nK 34 (.append 40 2 16 (.t 29) (.t 33)) .create 0,oRA 35 0 3,oRL 36 2 35,nK 37 (.buildSlice 40 2 (.agg [.int .i64 0,.int .i64 0]) 1 [(0,.t 36)]) .create 0,nK 38 (.append 40 2 16 (.t 34) (.t 37)) .create 0,oRA 39 3 2,oRD 40 39,oRM 41 6,oR 42 (.sliceSl 2 (.t 40) (some (.t 41)) none),nK 43 (.append 40 2 16 (.t 38) (.t 42)) .write 4,nK 44 (.fieldAddr 3 (.t 2)) .read 5,⟨none,.store 1 (.t 44) (.t 43),none,.write,5,false⟩])
 (oQ [oW 6 (.move (oI 0))]
 (.seq (.block 2 (.loop X8))
 Y1)))
def t99:aQ:={ntmps:=79,results:=[(.cell 4 (some 6)),.t 5],mode:=.frz,body :=
 (oQ [oW 2 (.box 36 6 (.t 0)),oW 3 (.box 93 4 (.t 1)),oW 4 (.alloc 36 6 (.agg [.int .i64 0,.nsl,.nsl,.nsl,.nsl,.nsl])),oW 5 (.move (oB false))]
 (.seq (oQ [oL 7 6 2,oA 8 0 3,oL 9 2 8,oW 10 (.call (oF 150) [.t 7,.t 9])]
 (.cond (.t 10) (oQ [oL 11 6 2,oS 6 4 11,oW 5 (.move (oB false))]
 .ret) .skip))
 (oQ [oW 6 (.move (oI 0))]
 (.seq (.block 0 (.loop X9))
 Y0))))}
theorem c99:aE Tryz.prog Tryz.f99 .frz=some t99:=by kernel_rfl
def Rq:aN :=
 (oQ [oW 14 (.arith .lss (.t 13) (.t 12))]
 (.seq (.cond (.t 14) .skip (.exit 0))
 (.seq (.block 1 (oQ [oW 15 (.indexAddr 1 (.t 11) (.t 13)),oD 16 15,oM 9 16]
 (oQ [oM 17 9,oM 18 1,oW 19 (.arith .neq (.t 17) (.t 18))]
 (.cond (.t 19) (.region [oM 20 7,oM 21 9,oL 22 7 5,oW 23 (.build [.int .i64 0,.int .i64 0,.int .i64 0,.int .i64 0,.int .i64 0,.int .i64 0,.nsl,.nsl] [(0,1,.t 21),(1,7,.t 22)]),oW 24 (.buildSlice 100 8 (.agg [.int .i64 0,.int .i64 0,.int .i64 0,.int .i64 0,.int .i64 0,.int .i64 0,.nsl,.nsl]) 1 [(0,.t 23)]),oW 25 (.append 100 8 96 (.t 20) (.t 24)),oM 7 25]) .skip))))
 (.region [oW 26 (.arith .add (.t 13) (oI 1)),oM 13 26]))))
def L4:aN :=
 (oQ [oM 27 7,oM 6 27]
 .ret)
def KR:aQ:={ntmps:=28,results:=[.t 6],mode:=.full,body :=
 (oQ [oW 3 (.box 36 6 (.t 0)),oW 5 (.box 44 7 (.t 2)),oW 6 (.move (.c .nsl))]
 (oQ [oW 7 (.move (.c .nsl))]
 (.seq (oQ [oA 10 1 3,oD 11 10,oW 12 (.len 1 (.t 11)),oW 13 (.move (oI 0))]
 (.block 0 (.loop Rq)))
 L4)))}
theorem c100:aE Tryz.prog Tryz.f100 .full=some KR:=by kernel_rfl
def L3:aQ:={ntmps:=17,results:=[(.cell 2 (some 3))],mode:=.pure,body :=
 (oQ [oW 2 (.alloc 106 3 (.agg [.bool false,.int .i64 0,.str []]))]
 (.seq (oQ [oM 3 0,oW 4 (.arith .and (.t 3) (oI 1)),oW 5 (.arith .eql (.t 4) (oI 0))]
 (.cond (.t 5) (oQ [oM 6 0,oW 7 (.arith .quo (.t 6) (oI 2)),oW 8 (.call (oF 8) [.t 7,oI 0,oI 9]),oW 9 (.build [.bool false,.int .i64 0,.str []] [(1,1,.t 8)]),oS 3 2 9]
 .ret) .skip))
 (oQ [oW 10 (.call (oF 145) []),oM 11 0,oW 12 (.arith .quo (.t 11) (oI 2)),oW 13 (.call (oF 8) [.t 12,oI 0,oI 6]),oW 14 (.indexAddr 1 (.t 10) (.t 13)),oD 15 14,oW 16 (.build [.bool false,.int .i64 0,.str []] [(0,1,oB true),(2,1,.t 15)]),oS 3 2 16]
 .ret)))}
theorem c101:aE Tryz.prog Tryz.f101 .pure=some L3:=by kernel_rfl
def We:aQ:={ntmps:=44,results:=[(.cell 4 (some 6)),.t 5],mode:=.frz,body :=
 (oQ [oW 2 (.box 36 6 (.t 0)),oW 3 (.box 93 4 (.t 1)),oW 4 (.alloc 36 6 (.agg [.int .i64 0,.nsl,.nsl,.nsl,.nsl,.nsl])),oW 5 (.move (oB false))]
 (oQ [oL 10 6 2,oW 11 (.call (oF 151) [.t 10]),oS 6 2 11]
 (oQ [oL 13 6 2,oA 14 0 3,oL 15 2 14,oW 16 (.call (oF 136) [.t 13,.t 15]),oM 12 16,oX 17 12 0,oX 18 12 1,oM 6 17,oM 7 18]
 (.seq (oQ [oM 19 7]
 (.cond (.t 19) (oQ [oL 20 6 2,oS 6 4 20,oW 5 (.move (oB false))]
 .ret) .skip))
 (oQ [oL 22 6 2,oA 23 0 3,oL 24 2 23,oW 25 (.call (oF 141) [.t 22,.t 24]),oM 21 25,oX 26 21 0,oX 27 21 1,oM 8 26,oM 9 27]
 (oQ [oA 28 2 2,oD 29 28,oM 30 8,oL 31 4 3,oW 32 (.buildSlice 93 4 (.agg [.int .i64 0,.int .i64 0,.nsl,.int .i64 0]) 1 [(0,.t 31)]),oW 33 (.call (oF 152) [.t 29,.t 30,.t 32]),oA 34 2 2,oS 1 34 33]
 (oQ [oA 35 3 2,oD 36 35,oM 37 6,oA 38 0 3,oL 39 2 38,oW 40 (.buildSlice 40 2 (.agg [.int .i64 0,.int .i64 0]) 1 [(0,.t 39)]),oW 41 (.call (oF 153) [.t 36,.t 37,.t 40]),oA 42 3 2,oS 1 42 41]
 (oQ [oL 43 6 2,oS 6 4 43,oW 5 (.move (oB true))]
 .ret))))))))}
theorem c102:aE Tryz.prog Tryz.f102 .frz=some We:=by kernel_rfl
end Go.Dm.Tc
