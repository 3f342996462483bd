/- A part of the proof. -/
import Derived.Test.YtfkbogedodngeaaGreatDoorTc0
import Derived.Test.YtfkbogedodngeaaGreatDoorMm4
import Derived.Test.YtfkbogedodngeaaGreatDoorRows
import Derived.KernelRfl
namespace Go.Dm.Tc
open Go.Proofs
def t80:aS:={ntmps:=2,results:=[.t 0],mode:=.pure,body :=
 (oQ [oW 0 (.move (.c .nsl))]
 (oQ [oW 1 (.buildSlice 9 1 (.str []) 7 [(0,(.c (.str [97]))),(1,(.c (.str [98]))),(2,(.c (.str [99]))),(3,(.c (.str [100]))),(4,(.c (.str [101]))),(5,(.c (.str [102]))),(6,(.c (.str [103])))]),oM 0 1]
 .ret))}
theorem c80:aH Tryz.prog Tryz.f80 .pure=some t80:=by kernel_rfl
def t81:aS:={ntmps:=44,results:=[(.cell 4 (some 5))],mode:=.pure,body :=
 (oQ [oW 4 (.alloc 94 5 (.agg [.str [],.int .i64 0,.int .i64 0,.int .i64 0,.str []]))]
 (oQ [oM 6 0,oW 7 (.build [.str [],.int .i64 0,.int .i64 0,.int .i64 0,.str []] [(0,1,.t 6)]),oW 5 (.alloc 94 5 (.agg [.str [],.int .i64 0,.int .i64 0,.int .i64 0,.str []])),oS 5 5 7]
 (.seq (oQ [oM 8 1,oW 9 (.call (oF 10) [.t 8,oI 0,oI 3])]
 (.block 0 (.seq (oQ [oW 19 (.arith .eql (.t 9) (oI 0)),oM 18 19]
 (.cond (.t 18) .skip (.region [oW 20 (.arith .eql (.t 9) (oI 1)),oM 18 20])))
 (.cond (.t 18) (oQ [oM 21 1,oW 22 (.arith .quo (.t 21) (oI 4)),oW 23 (.call (oF 10) [.t 22,oI 0,oI 9]),oA 24 1 5,oZ (.store 1 (.t 24) (oI 1)),oA 25 2 5,oS 1 25 23]
 (.draw [oRA 26 2 5,oRD 27 26,oRM 28 1,oR 29 (.arith .quo (.t 28) (oI 40)),nK 30 (.call (oF 10) [.t 29,oI 0,oI 9]) .create 0,nK 31 (.arith .add (.t 27) (.t 30)) .read 1,nK 32 (.fieldAddr 3 (.t 5)) .read 1,⟨none,.store 1 (.t 32) (.t 31),none,.write,1,false⟩])) (oQ [oW 34 (.arith .eql (.t 9) (oI 2)),oM 33 34]
 (.cond (.t 33) (.draw [oW 35 (.call (oF 179) []),oRM 36 1,oR 37 (.arith .quo (.t 36) (oI 4)),nK 38 (.call (oF 10) [.t 37,oI 0,oI 6]) .write 1,nK 39 (.indexAddr 1 (.t 35) (.t 38)) .read 2,nK 40 (.load none (.t 39)) .read 2,oRA 41 1 5,⟨none,.store 1 (.t 41) (oI 2),none,.create,2,false⟩,nK 42 (.fieldAddr 4 (.t 5)) .read 3,⟨none,.store 1 (.t 42) (.t 40),none,.write,3,false⟩]) (.draw [oW 10 (.call (oF 179) []),oRM 11 1,oR 12 (.arith .quo (.t 11) (oI 4)),nK 13 (.call (oF 10) [.t 12,oI 0,oI 6]) .write 1,nK 14 (.indexAddr 1 (.t 10) (.t 13)) .read 2,nK 15 (.load none (.t 14)) .read 2,oRA 16 1 5,⟨none,.store 1 (.t 16) (oI 3),none,.create,2,false⟩,nK 17 (.fieldAddr 4 (.t 5)) .read 3,⟨none,.store 1 (.t 17) (.t 15),none,.write,3,false⟩])))))))
 (oQ [oL 43 5 5,oS 5 4 43]
 .ret))))}
theorem c81:aH Tryz.prog Tryz.f81 .pure=some t81:=by kernel_rfl
def YT:aM :=
 (oQ [oW 12 (.arith .lss (.t 11) (.t 10))]
 (.seq (.cond (.t 12) .skip (.exit 0))
 (.seq (.block 1 (oQ [oW 13 (.indexAddr 2 (.t 9) (.t 11)),oL 14 2 13,oW 5 (.alloc 86 2 (.agg [.int .i64 0,.int .i64 0])),oS 2 5 14]
 (.seq (.draw [oRM 15 0,oR 16 (.nilCheck (.t 15)),oRA 17 1 16,oRD 18 17,oRL 19 2 5,oR 20 (.lookup (.agg [1,1]) .nsl false (.t 18) (.t 19)),oR 21 (.len 1 (.t 20)),oR 22 (.arith .gtr (.t 21) (oI 0))])
 (.cond (.t 22) (.region [oM 23 3,oL 24 2 5,oW 25 (.buildSlice 86 2 (.agg [.int .i64 0,.int .i64 0]) 1 [(0,.t 24)]),oW 26 (.append 86 2 16 (.t 23) (.t 25)),oM 3 26]) .skip))))
 (.region [oW 27 (.arith .add (.t 11) (oI 1)),oM 11 27]))))
def YU:aM :=
 (oQ [oM 28 3,oM 2 28]
 .ret)
def t82:aS:={ntmps:=29,results:=[.t 2],mode:=.full,body :=
 (oQ [oW 2 (.move (.c .nsl))]
 (oQ [oW 3 (.move (.c .nsl))]
 (.seq (oQ [oM 6 0,oW 7 (.nilCheck (.t 6)),oA 8 0 7,oD 9 8,oW 10 (.len 1 (.t 9)),oW 11 (.move (oI 0))]
 (.block 0 (.loop YT)))
 YU)))}
theorem c82:aH Tryz.prog Tryz.f82 .full=some t82:=by kernel_rfl
def t86:aS:={ntmps:=12,results:=[.t 4,.t 5],mode:=.pure,body :=
 (oQ [oW 2 (.box 37 6 (.t 0)),oW 3 (.box 45 2 (.t 1)),oW 4 (.move (oI 0)),oW 5 (.move (oB false))]
 (oQ [oA 6 2 2,oD 7 6,oL 8 2 3,oW 9 (.call (oF 183) [.t 7,.t 8,oF 184]),oX 10 9 0,oX 11 9 1,oM 4 10,oM 5 11]
 .ret))}
theorem c86:aH Tryz.prog Tryz.f86 .pure=some t86:=by kernel_rfl
def t87:aS:={ntmps:=16,results:=[.t 4],mode:=.full,body :=
 (oQ [oW 4 (.move (oB false))]
 (oQ [oM 5 1,oW 6 (.arith .geq (.t 5) (oI 0)),oM 7 6,gM 8 1 7 true,gM 9 0 7 true,gW 10 (.nilCheck (.t 9)) 7 true,gA 11 2 10 7 true,gD 12 11 7 true,gW 13 (.len 1 (.t 12)) 7 true,gW 14 (.arith .lss (.t 8) (.t 13)) 7 true,oW 15 (.pick (.t 7) (.t 14) (oB false)),oM 4 15]
 .ret))}
theorem c87:aH Tryz.prog Tryz.f87 .full=some t87:=by kernel_rfl
def VH:aM :=
 (.draw [oRM 23 3,oR 24 (.nilCheck (.t 23)),oRA 25 1 24,oRD 26 25,oRL 27 2 4,oRM 28 5,nK 29 (.call (oF 180) [.t 28]) .create 0,⟨none,.mapUpdate (.agg [1,1]) (.t 26) (.t 27) (.t 29),none,.write,1,false⟩])
def VI:aM :=
 (oQ [oM 30 3,oM 2 30]
 .ret)
def ZZ:aS:={ntmps:=31,results:=[.t 2],mode:=.full,body :=
 (oQ [oW 2 (.move (.c .nilp))]
 (oQ [oM 6 0,oW 7 (.nilCheck (.t 6)),oA 8 0 7,oD 9 8,oW 10 (.makeMap),oW 11 (.build [.nsl,.nmap] [(0,1,.t 9),(1,1,.t 10)]),oW 12 (.box 271 2 (.t 11)),oM 3 12]
 (.seq (oQ [oM 13 0,oW 14 (.nilCheck (.t 13)),oA 15 1 14,oD 16 15]
 (.walk (.t 16) 17 18 19 20 0 1 [17,18,19,20,29,28,27,26,25,24,23,5,4,22,21,20] [oX 21 20 0,oX 22 20 1,oW 4 (.alloc 86 2 (.agg [.int .i64 0,.int .i64 0])),oS 2 4 21,oM 5 22] VH))
 VI)))}
theorem c100:aH Tryz.prog Tryz.f100 .full=some ZZ:=by kernel_rfl
def ZY:aS:={ntmps:=22,results:=[.t 4],mode:=.pure,body :=
 (oQ [oW 2 (.box 76 2 (.t 0)),oW 3 (.box 86 2 (.t 1)),oW 4 (.move (oB false))]
 (oQ [oL 5 2 2,oW 6 (.indexArr 2 1 (.t 3) (oI 0)),oD 7 6,oW 8 (.call (oF 190) [.t 5,.t 7]),oM 9 8,gL 10 2 2 9 true,gW 11 (.indexArr 2 1 (.t 3) (oI 1)) 9 true,gD 12 11 9 true,gW 13 (.call (oF 190) [.t 10,.t 12]) 9 true,oW 14 (.pick (.t 9) (.t 13) (oB false)),oM 15 14,gW 16 (.indexArr 2 1 (.t 3) (oI 0)) 15 true,gD 17 16 15 true,gW 18 (.indexArr 2 1 (.t 3) (oI 1)) 15 true,gD 19 18 15 true,gW 20 (.arith .neq (.t 17) (.t 19)) 15 true,oW 21 (.pick (.t 15) (.t 20) (oB false)),oM 4 21]
 .ret))}
theorem c101:aH Tryz.prog Tryz.f101 .pure=some ZY:=by kernel_rfl
def Hh:aS:={ntmps:=17,results:=[.t 4],mode:=.pure,body :=
 (oQ [oW 2 (.box 86 2 (.t 0)),oW 3 (.box 86 2 (.t 1)),oW 4 (.move (oI 0))]
 (.seq (.draw [oR 5 (.indexArr 2 1 (.t 2) (oI 0)),oRD 6 5,oR 7 (.indexArr 2 1 (.t 3) (oI 0)),oRD 8 7,nK 9 (.call (oF 105) [.t 6,.t 8]) .create 0,oR 10 (.indexArr 2 1 (.t 2) (oI 1)),oRD 11 10,oR 12 (.indexArr 2 1 (.t 3) (oI 1)),oRD 13 12,nK 14 (.call (oF 105) [.t 11,.t 13]) .write 1,nK 15 (.buildSlice 3 1 (.int .i64 0) 2 [(0,.t 9),(1,.t 14)]) .create 0,nK 16 (.call (oF 104) [.t 15]) .write 3,nK 4 (.move (.t 16)) .read 4])
 .ret))}
theorem YD:aH Tryz.prog Tryz.f103 .pure=some Hh:=by kernel_rfl
def uA:aM :=
 (oQ [oW 9 (.arith .lss (.t 8) (.t 7))]
 (.seq (.cond (.t 9) .skip (.exit 0))
 (.seq (.block 1 (oQ [oW 10 (.indexAddr 1 (.t 6) (.t 8)),oD 11 10,oM 5 11]
 (oQ [oM 12 5,oM 13 3,oW 14 (.arith .neq (.t 12) (.t 13))]
 (.cond (.t 14) (oQ [oM 15 5,oM 2 15]
 .ret) .skip))))
 (.region [oW 16 (.arith .add (.t 8) (oI 1)),oM 8 16]))))
def Hg:aM :=
 (oQ [oM 17 3,oM 2 17]
 .ret)
def Cv:aS:={ntmps:=18,results:=[.t 2],mode:=.pure,body :=
 (oQ [oW 2 (.move (oI 0))]
 (oQ [oW 3 (.move (oI 0))]
 (.seq (oQ [oM 6 0,oW 7 (.len 1 (.t 6)),oW 8 (.move (oI 0))]
 (.block 0 (.loop uA)))
 Hg)))}
theorem YC:aH Tryz.prog Tryz.f104 .pure=some Cv:=by kernel_rfl
def wA:aS:={ntmps:=20,results:=[.t 4],mode:=.pure,body :=
 (oQ [oW 4 (.move (oI 0))]
 (oQ [oM 7 0,oW 8 (.call (oF 193) [.t 7]),oM 5 8]
 (oQ [oM 9 1,oW 10 (.call (oF 193) [.t 9]),oM 6 10]
 (.seq (oQ [oM 11 5]
 (.cond (.t 11) (.seq (oQ [oM 12 6]
 (.cond (.t 12) (oQ [oW 4 (.move (oI 0))]
 .ret) .skip))
 (oQ [oW 4 (.move (oI (-1)))]
 .ret)) .skip))
 (.seq (oQ [oM 13 6]
 (.cond (.t 13) (oQ [oW 4 (.move (oI 1))]
 .ret) .skip))
 (.seq (oQ [oM 14 0,oM 15 1,oW 16 (.arith .lss (.t 14) (.t 15))]
 (.cond (.t 16) (oQ [oW 4 (.move (oI (-1)))]
 .ret) .skip))
 (.seq (oQ [oM 17 0,oM 18 1,oW 19 (.arith .gtr (.t 17) (.t 18))]
 (.cond (.t 19) (oQ [oW 4 (.move (oI 1))]
 .ret) .skip))
 (oQ [oW 4 (.move (oI 0))]
 .ret))))))))}
theorem YB:aH Tryz.prog Tryz.f105 .pure=some wA:=by kernel_rfl
def VD:aM :=
 (.seq (oQ [oM 29 5,oM 30 4,oW 31 (.len 1 (.t 30)),oW 32 (.arith .lss (.t 29) (.t 31))]
 (.cond (.t 32) .skip (.exit 2)))
 (.seq (.block 3 (.seq (.draw [oRM 35 4,oRM 36 5,oR 37 (.indexAddr 2 (.t 35) (.t 36)),oRL 38 2 37,oRM 39 4,oRM 40 5,oR 41 (.arith .sub (.t 40) (oI 1)),oR 42 (.indexAddr 2 (.t 39) (.t 41)),oRL 43 2 42,oR 44 (.eqa true [1,1] (.t 38) (.t 43))])
 (.cond (.t 44) (oQ [oM 45 0,oM 46 3,oM 47 4,oM 48 5,oW 49 (.indexAddr 2 (.t 47) (.t 48)),oL 50 2 49,oW 51 (.indexAddr 2 (.t 45) (.t 46)),oS 2 51 50]
 (.region [oM 52 3,oW 53 (.arith .add (.t 52) (oI 1)),oM 3 53])) .skip)))
 (.region [oM 33 5,oW 34 (.arith .add (.t 33) (oI 1)),oM 5 34])))
def VG:aM :=
 (oQ [oM 54 0,oM 55 3,oW 56 (.sliceSl 2 (.t 54) (some (.t 55)) none),oZ (.clear 2 (.agg [.int .i64 0,.int .i64 0]) (.t 56))]
 (oQ [oM 57 0,oM 58 3,oW 59 (.sliceSl 2 (.t 57) none (some (.t 58))),oM 2 59]
 .ret))
def VF:aM :=
 (.region [oM 14 3,oW 15 (.arith .add (.t 14) (oI 1)),oM 3 15])
def VC:aM :=
 (.seq (oQ [oM 10 3,oM 11 0,oW 12 (.len 1 (.t 11)),oW 13 (.arith .lss (.t 10) (.t 12))]
 (.cond (.t 13) .skip (.exit 0)))
 (.seq (.block 1 (.seq (.draw [oRM 16 0,oRM 17 3,oR 18 (.indexAddr 2 (.t 16) (.t 17)),oRL 19 2 18,oRM 20 0,oRM 21 3,oR 22 (.arith .sub (.t 21) (oI 1)),oR 23 (.indexAddr 2 (.t 20) (.t 22)),oRL 24 2 23,oR 25 (.eqa false [1,1] (.t 19) (.t 24))])
 (.cond (.t 25) (oQ [oM 26 0,oM 27 3,oW 28 (.sliceSl 2 (.t 26) (some (.t 27)) none),oM 4 28]
 (.seq (oQ [oW 5 (.move (oI 1))]
 (.block 2 (.loop VD)))
 VG)) .skip)))
 VF))
def VE:aM :=
 (oQ [oM 60 0,oM 2 60]
 .ret)
def ZX:aS:={ntmps:=61,results:=[.t 2],mode:=.full,body :=
 (oQ [oW 2 (.move (.c .nsl))]
 (.seq (oQ [oM 6 0,oW 7 (.len 1 (.t 6)),oW 8 (.arith .lss (.t 7) (oI 2))]
 (.cond (.t 8) (oQ [oM 9 0,oM 2 9]
 .ret) .skip))
 (.seq (oQ [oW 3 (.move (oI 1))]
 (.block 0 (.loop VC)))
 VE)))}
theorem c106:aH Tryz.prog Tryz.f106 .full=some ZX:=by kernel_rfl
def Ue:aS:={ntmps:=24,results:=[.t 4],mode:=.pure,body :=
 (oQ [oW 2 (.box 45 2 (.t 0)),oW 3 (.box 45 2 (.t 1)),oW 4 (.move (oB false))]
 (oQ [oA 5 0 2,oD 6 5,oA 7 0 3,oD 8 7,oW 9 (.arith .lss (.t 6) (.t 8)),oM 10 9,gA 11 0 2 10 false,gD 12 11 10 false,gA 13 0 3 10 false,gD 14 13 10 false,gW 15 (.arith .eql (.t 12) (.t 14)) 10 false,gM 16 15 10 false,gA 17 1 2 16 true,gD 18 17 16 true,gA 19 1 3 16 true,gD 20 19 16 true,gW 21 (.arith .lss (.t 18) (.t 20)) 16 true,gW 22 (.pick (.t 16) (.t 21) (oB false)) 10 false,oW 23 (.pick (.t 10) (oB true) (.t 22)),oM 4 23]
 .ret))}
theorem c112:aH Tryz.prog Tryz.f112 .pure=some Ue:=by kernel_rfl
def BN:aS:={ntmps:=22,results:=[.t 4],mode:=.pure,body :=
 (oQ [oW 4 (.move (oB false))]
 (oQ [oW 8 (.buildSlice 94 5 (.agg [.str [],.int .i64 0,.int .i64 0,.int .i64 0,.str []]) 0 []),oM 9 0,oW 10 (.append 94 5 56 (.t 8) (.t 9)),oM 11 1,oW 12 (.append 94 5 56 (.t 10) (.t 11)),oW 13 (.call (oF 195) [.t 12]),oM 7 13,oX 14 7 0,oX 15 7 1,oM 5 14,oM 6 15]
 (oQ [oM 16 6,oM 17 16,gM 18 5 17 true,gW 19 (.len 1 (.t 18)) 17 true,gW 20 (.arith .leq (.t 19) (oI 5)) 17 true,oW 21 (.pick (.t 17) (.t 20) (oB false)),oM 4 21]
 .ret)))}
theorem c113:aH Tryz.prog Tryz.f113 .pure=some BN:=by kernel_rfl
def zH:aM :=
 (.seq (.seq (.draw [oRA 58 4 2,oRD 59 58,oRM 57 7,oR 60 (.len 1 (.t 59)),oR 61 (.arith .lss (.t 57) (.t 60)),oRM 62 61,rA 63 4 2 62 true,rD 64 63 62 true,rM 65 7 62 true,rW 66 (.indexAddr 7 (.t 64) (.t 65)) 62 true,rA 67 0 66 62 true,rL 68 2 67 62 true,rA 69 0 3 62 true,rL 70 2 69 62 true,gW 71 (.call (oF 112) [.t 68,.t 70]) 62 true,⟨(some 72),.move (.t 71),(some (62,true)),.read,1,false⟩,⟨(some 73),.fieldAddr 4 (.t 2),(some (72,false)),.read,1,false⟩,⟨(some 74),.load none (.t 73),(some (72,false)),.read,1,false⟩,⟨(some 75),.move (.t 7),(some (72,false)),.read,1,false⟩,⟨(some 76),.indexAddr 7 (.t 74) (.t 75),(some (72,false)),.read,1,false⟩,⟨(some 77),.fieldAddr 0 (.t 76),(some (72,false)),.read,1,false⟩,⟨(some 78),.load (some 2) (.t 77),(some (72,false)),.read,1,false⟩,⟨(some 79),.fieldAddr 0 (.t 3),(some (72,false)),.read,1,false⟩,⟨(some 80),.load (some 2) (.t 79),(some (72,false)),.read,1,false⟩,⟨(some 81),.eqa false [1,1] (.t 78) (.t 80),(some (72,false)),.read,1,false⟩,⟨(some 82),.move (.t 81),(some (72,false)),.read,1,false⟩,⟨(some 83),.fieldAddr 4 (.t 2),(some (82,true)),.read,1,false⟩,⟨(some 84),.load none (.t 83),(some (82,true)),.read,1,false⟩,⟨(some 85),.move (.t 7),(some (82,true)),.read,1,false⟩,⟨(some 86),.indexAddr 7 (.t 84) (.t 85),(some (82,true)),.read,1,false⟩,⟨(some 87),.fieldAddr 2 (.t 86),(some (82,true)),.read,1,false⟩,⟨(some 88),.load (some 2) (.t 87),(some (82,true)),.read,1,false⟩,⟨(some 89),.fieldAddr 2 (.t 3),(some (82,true)),.read,1,false⟩,⟨(some 90),.load (some 2) (.t 89),(some (82,true)),.read,1,false⟩,⟨(some 91),.call (oF 112) [.t 88,.t 90],(some (82,true)),.write,1,false⟩,⟨(some 92),.pick (.t 82) (.t 91) (oB false),(some (72,false)),.read,2,false⟩,⟨(some 93),.pick (.t 72) (oB true) (.t 92),(some (62,true)),.read,2,false⟩,nK 94 (.pick (.t 62) (.t 93) (oB false)) .read 2])
 (.cond (.t 94) .skip (.exit 0)))
 (.block 1 (.region [oM 95 7,oW 96 (.arith .add (.t 95) (oI 1)),oM 7 96])))
def vZ:aM :=
 (.seq (.draw [oRA 98 4 2,oRD 99 98,oRM 100 7,oR 101 (.sliceSl 7 (.t 99) none (some (.t 100))),nK 97 (.buildSlice 70 7 (.agg [.int .i64 0,.int .i64 0,.int .i64 0,.int .i64 0,.nsl,.int .i64 0,.bool false]) 0 []) .create 0,nK 102 (.append 70 7 72 (.t 97) (.t 101)) .create 0,oRL 103 7 3,nK 104 (.buildSlice 70 7 (.agg [.int .i64 0,.int .i64 0,.int .i64 0,.int .i64 0,.nsl,.int .i64 0,.bool false]) 1 [(0,.t 103)]) .create 0,nK 105 (.append 70 7 72 (.t 102) (.t 104)) .create 0,oRA 106 4 2,oRD 107 106,oRM 108 7,oR 109 (.sliceSl 7 (.t 107) (some (.t 108)) none),nK 110 (.append 70 7 72 (.t 105) (.t 109)) .write 4,nK 111 (.fieldAddr 4 (.t 2)) .read 5,⟨none,.store 1 (.t 111) (.t 110),none,.write,5,false⟩])
 (.seq (.draw [⟨(some 112),.load (some 6) (.t 2),none,.read,0,true⟩,oRA 113 6 3,oRD 114 113,⟨none,.store 6 (.t 4) (.t 112),none,.create,0,false⟩,nK 5 (.move (.t 114)) .read 1])
 .ret))
def zI:aS:={ntmps:=115,results:=[(.cell 4 (some 6)),.t 5],mode:=.frz,body :=
 (oQ [oW 2 (.box 37 6 (.t 0)),oW 3 (.box 70 7 (.t 1)),oW 4 (.alloc 37 6 (.agg [.int .i64 0,.nsl,.nsl,.nsl,.nsl,.nsl])),oW 5 (.move (oB false))]
 (oQ [oL 8 6 2,oA 9 0 3,oL 10 2 9,oW 11 (.call (oF 196) [.t 8,.t 10]),oM 6 11]
 (.seq (.seq (.draw [oRM 12 6,oR 13 (.arith .lss (.t 12) (oI 0)),oRM 14 13,rL 15 6 2 14 false,rA 16 0 3 14 false,rL 17 2 16 14 false,rA 18 2 3 14 false,rL 19 2 18 14 false,gW 20 (.call (oF 197) [.t 15,.t 17,.t 19]) 14 false,⟨(some 21),.arith .geq (.t 20) (oI 0),(some (14,false)),.read,1,false⟩,nK 22 (.pick (.t 14) (oB true) (.t 21)) .read 1,nK 23 (.move (.t 22)) .read 1,⟨(some 24),.fieldAddr 5 (.t 3),(some (23,false)),.read,1,false⟩,⟨(some 25),.load none (.t 24),(some (23,false)),.read,1,false⟩,⟨(some 26),.arith .neq (.t 25) (oI (-1)),(some (23,false)),.read,1,false⟩,⟨(some 27),.move (.t 26),(some (23,false)),.read,1,false⟩,⟨(some 28),.fieldAddr 5 (.t 3),(some (27,true)),.read,1,false⟩,⟨(some 29),.load none (.t 28),(some (27,true)),.read,1,false⟩,⟨(some 30),.fieldAddr 2 (.t 2),(some (27,true)),.read,1,false⟩,⟨(some 31),.load none (.t 30),(some (27,true)),.read,1,false⟩,⟨(some 32),.move (.t 6),(some (27,true)),.read,1,false⟩,⟨(some 33),.indexAddr 4 (.t 31) (.t 32),(some (27,true)),.read,1,false⟩,⟨(some 34),.fieldAddr 3 (.t 33),(some (27,true)),.read,1,false⟩,⟨(some 35),.load none (.t 34),(some (27,true)),.read,1,false⟩,⟨(some 36),.arith .eql (.t 29) (.t 35),(some (27,true)),.read,1,false⟩,⟨(some 37),.pick (.t 27) (.t 36) (oB false),(some (23,false)),.read,1,false⟩,nK 38 (.pick (.t 23) (oB true) (.t 37)) .read 1])
 (.cond (.t 38) (oQ [oL 39 6 2,oS 6 4 39,oW 5 (.move (oB false))]
 .ret) .skip))
 (oQ [oA 40 2 2,oD 41 40,oM 42 6,oW 43 (.indexAddr 4 (.t 41) (.t 42)),oA 44 3 43,oD 45 44,oW 46 (.arith .neq (.t 45) (oI (-1))),oM 47 46,gL 48 6 2 47 true,gA 49 0 3 47 true,gL 50 2 49 47 true,gA 51 4 3 47 true,gD 52 51 47 true,gW 53 (.call (oF 198) [.t 48,.t 50,.t 52]) 47 true,gW 54 (.un .not (.t 53)) 47 true,oW 55 (.pick (.t 47) (.t 54) (oB false)),oA 56 6 3,oS 1 56 55]
 (oQ [oW 7 (.move (oI 0))]
 (.seq (.block 0 (.loop zH))
 vZ))))))}
theorem c114:aH Tryz.prog Tryz.f114 .frz=some zI:=by kernel_rfl
def BM:aS:={ntmps:=10,results:=[(.cell 2 (some 7))],mode:=.pure,body :=
 (oQ [oW 1 (.box 70 7 (.t 0)),oW 2 (.alloc 49 7 (.agg [.int .i64 0,.int .i64 0,.int .i64 0,.int .i64 0,.int .i64 0,.nsl,.nsl]))]
 (oQ [oA 3 0 1,oL 4 2 3,oA 5 2 1,oL 6 2 5,oA 7 4 1,oD 8 7,oW 9 (.build [.int .i64 0,.int .i64 0,.int .i64 0,.int .i64 0,.int .i64 0,.nsl,.nsl] [(0,1,oI 3),(1,2,.t 4),(3,2,.t 6),(5,1,.t 8)]),oS 7 2 9]
 .ret))}
theorem c115:aH Tryz.prog Tryz.f115 .pure=some BM:=by kernel_rfl
def Qa:aM :=
 (oQ [oW 39 (.arith .lss (.t 38) (.t 37))]
 (.seq (.cond (.t 39) .skip (.exit 0))
 (.seq (.block 1 (oQ [oW 40 (.indexAddr 7 (.t 36) (.t 38)),oL 41 7 40,oW 15 (.alloc 70 7 (.agg [.int .i64 0,.int .i64 0,.int .i64 0,.int .i64 0,.nsl,.int .i64 0,.bool false])),oS 7 15 41]
 (.region [oM 42 13,oM 43 12,oL 44 7 15,oW 45 (.call (oF 115) [.t 44]),oW 46 (.build [.int .i64 0,.int .i64 0,.int .i64 0,.int .i64 0,.int .i64 0,.int .i64 0,.nsl,.nsl] [(0,1,.t 43),(1,7,.t 45)]),oW 47 (.buildSlice 206 8 (.agg [.int .i64 0,.int .i64 0,.int .i64 0,.int .i64 0,.int .i64 0,.int .i64 0,.nsl,.nsl]) 1 [(0,.t 46)]),oW 48 (.append 206 8 96 (.t 42) (.t 47)),oM 13 48])))
 (.region [oW 49 (.arith .add (.t 38) (oI 1)),oM 38 49]))))
def Hf:aM :=
 (.seq (.draw [oRL 50 6 4,oRL 53 2 5,oRL 54 2 6,oRM 51 13,oRM 52 12,oR 55 (.build [.int .i64 0,.int .i64 0,.int .i64 0,.int .i64 0,.int .i64 0,.nsl,.nsl] [(0,1,oI 4),(1,2,.t 53),(3,2,.t 54)]),oR 56 (.build [.int .i64 0,.int .i64 0,.int .i64 0,.int .i64 0,.int .i64 0,.int .i64 0,.nsl,.nsl] [(0,1,.t 52),(1,7,.t 55)]),nK 57 (.buildSlice 206 8 (.agg [.int .i64 0,.int .i64 0,.int .i64 0,.int .i64 0,.int .i64 0,.int .i64 0,.nsl,.nsl]) 1 [(0,.t 56)]) .create 0,nK 58 (.append 206 8 96 (.t 51) (.t 57)) .create 0,⟨none,.store 6 (.t 8) (.t 50),none,.write,2,false⟩,nK 9 (.move (.t 58)) .read 3])
 .ret)
def D5:aS:={ntmps:=59,results:=[(.cell 8 (some 6)),.t 9],mode:=.frz,body :=
 (oQ [oW 4 (.box 37 6 (.t 0)),oW 5 (.box 45 2 (.t 1)),oW 6 (.box 45 2 (.t 2)),oW 8 (.alloc 37 6 (.agg [.int .i64 0,.nsl,.nsl,.nsl,.nsl,.nsl])),oW 9 (.move (.c .nsl))]
 (oQ [oL 17 6 4,oL 18 2 5,oL 19 2 6,oM 20 3,oW 21 (.call (oF 199) [.t 17,.t 18,.t 19,.t 20]),oM 16 21,oX 22 16 0,oX 23 16 1,oX 24 16 2,oS 6 4 22,oM 10 23,oM 11 24]
 (.seq (oQ [oM 25 11,oW 26 (.un .not (.t 25))]
 (.cond (.t 26) (oQ [oL 27 6 4,oS 6 8 27,oW 9 (.move (.c .nsl))]
 .ret) .skip))
 (.seq (.draw [oRA 28 2 4,oRD 29 28,oRL 30 6 4,oRL 31 2 5,nK 32 (.call (oF 196) [.t 30,.t 31]) .create 0,nK 33 (.indexAddr 4 (.t 29) (.t 32)) .read 1,nK 34 (.fieldAddr 3 (.t 33)) .read 1,nK 35 (.load none (.t 34)) .read 1,nK 12 (.move (.t 35)) .read 1])
 (oQ [oW 13 (.move (.c .nsl))]
 (.seq (oQ [oM 36 10,oW 37 (.len 1 (.t 36)),oW 38 (.move (oI 0))]
 (.block 0 (.loop Qa)))
 Hf))))))}
theorem c116:aH Tryz.prog Tryz.f116 .frz=some D5:=by kernel_rfl
def Pw:aM :=
 (.seq (.seq (.draw [oRA 13 3 2,oRD 14 13,oRM 12 6,oR 15 (.len 1 (.t 14)),oR 16 (.arith .lss (.t 12) (.t 15)),oRM 17 16,rA 18 3 2 17 true,rD 19 18 17 true,rM 20 6 17 true,rW 21 (.indexAddr 2 (.t 19) (.t 20)) 17 true,rL 22 2 21 17 true,rA 23 0 3 17 true,rL 24 2 23 17 true,gW 25 (.call (oF 112) [.t 22,.t 24]) 17 true,nK 26 (.pick (.t 17) (.t 25) (oB false)) .read 1])
 (.cond (.t 26) .skip (.exit 0)))
 (.block 1 (.region [oM 27 6,oW 28 (.arith .add (.t 27) (oI 1)),oM 6 28])))
def Pv:aM :=
 (.seq (.seq (.draw [oRA 46 2 2,oRD 47 46,oRM 45 6,oR 48 (.len 1 (.t 47)),oR 49 (.arith .lss (.t 45) (.t 48)),oRM 50 49,rA 51 2 2 50 true,rD 52 51 50 true,rM 53 6 50 true,rW 54 (.indexAddr 4 (.t 52) (.t 53)) 50 true,rA 55 0 54 50 true,rL 56 2 55 50 true,rA 57 0 3 50 true,rL 58 2 57 50 true,gW 59 (.call (oF 112) [.t 56,.t 58]) 50 true,nK 60 (.pick (.t 50) (.t 59) (oB false)) .read 1])
 (.cond (.t 60) .skip (.exit 2)))
 (.block 3 (.region [oM 61 6,oW 62 (.arith .add (.t 61) (oI 1)),oM 6 62])))
def Py:aM :=
 (.seq (.draw [oRA 64 2 2,oRD 65 64,oRM 66 6,oR 67 (.sliceSl 4 (.t 65) none (some (.t 66))),nK 63 (.buildSlice 68 4 (.agg [.int .i64 0,.int .i64 0,.nsl,.int .i64 0]) 0 []) .create 0,nK 68 (.append 68 4 48 (.t 63) (.t 67)) .create 0,oRL 69 4 3,nK 70 (.buildSlice 68 4 (.agg [.int .i64 0,.int .i64 0,.nsl,.int .i64 0]) 1 [(0,.t 69)]) .create 0,nK 71 (.append 68 4 48 (.t 68) (.t 70)) .create 0,oRA 72 2 2,oRD 73 72,oRM 74 6,oR 75 (.sliceSl 4 (.t 73) (some (.t 74)) none),nK 76 (.append 68 4 48 (.t 71) (.t 75)) .write 4,nK 77 (.fieldAddr 2 (.t 2)) .read 5,⟨none,.store 1 (.t 77) (.t 76),none,.write,5,false⟩])
 (oQ [oL 78 6 2,oS 6 4 78,oW 5 (.move (oB true))]
 .ret))
def Px:aM :=
 (.seq (.draw [oRA 30 3 2,oRD 31 30,oRM 32 6,oR 33 (.sliceSl 2 (.t 31) none (some (.t 32))),nK 29 (.buildSlice 45 2 (.agg [.int .i64 0,.int .i64 0]) 0 []) .create 0,nK 34 (.append 45 2 16 (.t 29) (.t 33)) .create 0,oRA 35 0 3,oRL 36 2 35,nK 37 (.buildSlice 45 2 (.agg [.int .i64 0,.int .i64 0]) 1 [(0,.t 36)]) .create 0,nK 38 (.append 45 2 16 (.t 34) (.t 37)) .create 0,oRA 39 3 2,oRD 40 39,oRM 41 6,oR 42 (.sliceSl 2 (.t 40) (some (.t 41)) none),nK 43 (.append 45 2 16 (.t 38) (.t 42)) .write 4,nK 44 (.fieldAddr 3 (.t 2)) .read 5,⟨none,.store 1 (.t 44) (.t 43),none,.write,5,false⟩])
 (oQ [oW 6 (.move (oI 0))]
 (.seq (.block 2 (.loop Pv))
 Py)))
def Pz:aS:={ntmps:=79,results:=[(.cell 4 (some 6)),.t 5],mode:=.frz,body :=
 (oQ [oW 2 (.box 37 6 (.t 0)),oW 3 (.box 68 4 (.t 1)),oW 4 (.alloc 37 6 (.agg [.int .i64 0,.nsl,.nsl,.nsl,.nsl,.nsl])),oW 5 (.move (oB false))]
 (.seq (oQ [oL 7 6 2,oA 8 0 3,oL 9 2 8,oW 10 (.call (oF 200) [.t 7,.t 9])]
 (.cond (.t 10) (oQ [oL 11 6 2,oS 6 4 11,oW 5 (.move (oB false))]
 .ret) .skip))
 (oQ [oW 6 (.move (oI 0))]
 (.seq (.block 0 (.loop Pw))
 Px))))}
theorem c117:aH Tryz.prog Tryz.f117 .frz=some Pz:=by kernel_rfl
def Pu:aM :=
 (oQ [oW 14 (.arith .lss (.t 13) (.t 12))]
 (.seq (.cond (.t 14) .skip (.exit 0))
 (.seq (.block 1 (oQ [oW 15 (.indexAddr 1 (.t 11) (.t 13)),oD 16 15,oM 9 16]
 (oQ [oM 17 9,oM 18 1,oW 19 (.arith .neq (.t 17) (.t 18))]
 (.cond (.t 19) (.region [oM 20 7,oM 21 9,oL 22 7 5,oW 23 (.build [.int .i64 0,.int .i64 0,.int .i64 0,.int .i64 0,.int .i64 0,.int .i64 0,.nsl,.nsl] [(0,1,.t 21),(1,7,.t 22)]),oW 24 (.buildSlice 206 8 (.agg [.int .i64 0,.int .i64 0,.int .i64 0,.int .i64 0,.int .i64 0,.int .i64 0,.nsl,.nsl]) 1 [(0,.t 23)]),oW 25 (.append 206 8 96 (.t 20) (.t 24)),oM 7 25]) .skip))))
 (.region [oW 26 (.arith .add (.t 13) (oI 1)),oM 13 26]))))
def D4:aM :=
 (oQ [oM 27 7,oM 6 27]
 .ret)
def HO:aS:={ntmps:=28,results:=[.t 6],mode:=.full,body :=
 (oQ [oW 3 (.box 37 6 (.t 0)),oW 5 (.box 49 7 (.t 2)),oW 6 (.move (.c .nsl))]
 (oQ [oW 7 (.move (.c .nsl))]
 (.seq (oQ [oA 10 1 3,oD 11 10,oW 12 (.len 1 (.t 11)),oW 13 (.move (oI 0))]
 (.block 0 (.loop Pu)))
 D4)))}
theorem c118:aH Tryz.prog Tryz.f118 .full=some HO:=by kernel_rfl
def D3:aS:={ntmps:=25,results:=[(.cell 6 (some 6)),.t 7],mode:=.frz,body :=
 (oQ [oW 3 (.box 37 6 (.t 0)),oW 5 (.box 45 2 (.t 2)),oW 6 (.alloc 37 6 (.agg [.int .i64 0,.nsl,.nsl,.nsl,.nsl,.nsl])),oW 7 (.move (.c .nsl))]
 (oQ [oL 10 6 3,oL 11 2 5,oM 12 1,oW 13 (.call (oF 201) [.t 10,.t 11,.t 12]),oM 9 13,oX 14 9 0,oX 15 9 1,oS 6 3 14,oM 8 15]
 (.seq (oQ [oM 16 8,oW 17 (.un .not (.t 16))]
 (.cond (.t 17) (oQ [oL 18 6 3,oS 6 6 18,oW 7 (.move (.c .nsl))]
 .ret) .skip))
 (.seq (.draw [oRL 19 6 3,oRL 20 6 3,oRL 22 2 5,oRM 21 1,oR 23 (.build [.int .i64 0,.int .i64 0,.int .i64 0,.int .i64 0,.int .i64 0,.nsl,.nsl] [(0,1,oI 2),(1,2,.t 22)]),nK 24 (.call (oF 118) [.t 20,.t 21,.t 23]) .create 0,⟨none,.store 6 (.t 6) (.t 19),none,.write,1,false⟩,nK 7 (.move (.t 24)) .read 2])
 .ret))))}
theorem c119:aH Tryz.prog Tryz.f119 .frz=some D3:=by kernel_rfl
def D2:aS:={ntmps:=41,results:=[(.cell 6 (some 6)),.t 7],mode:=.frz,body :=
 (oQ [oW 3 (.box 37 6 (.t 0)),oW 5 (.box 49 7 (.t 2)),oW 6 (.alloc 37 6 (.agg [.int .i64 0,.nsl,.nsl,.nsl,.nsl,.nsl])),oW 7 (.move (.c .nsl))]
 (oQ [oA 10 1 5,oL 11 2 10,oA 12 3 5,oL 13 2 12,oA 14 5 5,oD 15 14,oM 16 1,oW 17 (.build [.int .i64 0,.int .i64 0,.int .i64 0,.int .i64 0,.nsl,.int .i64 0,.bool false] [(0,2,.t 11),(2,2,.t 13),(4,1,.t 15),(5,1,.t 16)]),oW 8 (.alloc 70 7 (.agg [.int .i64 0,.int .i64 0,.int .i64 0,.int .i64 0,.nsl,.int .i64 0,.bool false])),oS 7 8 17]
 (oQ [oL 19 6 3,oL 20 7 8,oW 21 (.call (oF 114) [.t 19,.t 20]),oM 18 21,oX 22 18 0,oX 23 18 1,oS 6 3 22,oM 9 23]
 (.seq (oQ [oM 24 9,oW 25 (.un .not (.t 24))]
 (.cond (.t 25) (oQ [oL 26 6 3,oS 6 6 26,oW 7 (.move (.c .nsl))]
 .ret) .skip))
 (.seq (.draw [oRL 27 6 3,oRA 28 2 3,oRD 29 28,⟨(some 30),.load (some 6) (.t 3),none,.read,0,true⟩,oRA 31 1 5,⟨(some 32),.load (some 2) (.t 31),none,.read,0,true⟩,nK 33 (.call (oF 196) [.t 30,.t 32]) .create 0,nK 34 (.indexAddr 4 (.t 29) (.t 33)) .read 1,nK 35 (.fieldAddr 3 (.t 34)) .read 1,nK 36 (.load none (.t 35)) .read 1,oRL 37 7 8,nK 38 (.call (oF 115) [.t 37]) .create 1,⟨none,.store 6 (.t 6) (.t 27),none,.create,1,false⟩,nK 39 (.build [.int .i64 0,.int .i64 0,.int .i64 0,.int .i64 0,.int .i64 0,.int .i64 0,.nsl,.nsl] [(0,1,.t 36),(1,7,.t 38)]) .read 2,nK 40 (.buildSlice 206 8 (.agg [.int .i64 0,.int .i64 0,.int .i64 0,.int .i64 0,.int .i64 0,.int .i64 0,.nsl,.nsl]) 1 [(0,.t 39)]) .create 0,nK 7 (.move (.t 40)) .read 4])
 .ret)))))}
theorem c120:aH Tryz.prog Tryz.f120 .frz=some D2:=by kernel_rfl
def BL:aS:={ntmps:=17,results:=[(.cell 6 (some 6)),.t 7],mode:=.frz,body :=
 (oQ [oW 3 (.box 37 6 (.t 0)),oW 5 (.box 49 7 (.t 2)),oW 6 (.alloc 37 6 (.agg [.int .i64 0,.nsl,.nsl,.nsl,.nsl,.nsl])),oW 7 (.move (.c .nsl))]
 (oQ [oL 8 6 3,oA 9 1 5,oL 10 2 9,oA 11 3 5,oL 12 2 11,oM 13 1,oW 14 (.call (oF 116) [.t 8,.t 10,.t 12,.t 13]),oX 15 14 0,oX 16 14 1,oS 6 6 15,oM 7 16]
 .ret))}
theorem c121:aH Tryz.prog Tryz.f121 .frz=some BL:=by kernel_rfl
def UV:aM :=
 (oQ [oW 47 (.arith .lss (.t 46) (.t 45))]
 (.seq (.cond (.t 47) .skip (.exit 2))
 (.seq (.block 3 (oQ [oW 48 (.indexAddr 7 (.t 44) (.t 46)),oL 49 7 48,oW 14 (.alloc 70 7 (.agg [.int .i64 0,.int .i64 0,.int .i64 0,.int .i64 0,.nsl,.int .i64 0,.bool false])),oS 7 14 49]
 (.region [oM 50 12,oM 51 50,gA 52 0 14 51 false,gL 53 2 52 51 false,gA 54 1 5 51 false,gL 55 2 54 51 false,gW 56 (.eqa false [1,1] (.t 53) (.t 55)) 51 false,gM 57 56 51 false,gA 58 5 14 57 true,gD 59 58 57 true,gM 60 11 57 true,gW 61 (.arith .eql (.t 59) (.t 60)) 57 true,gW 62 (.pick (.t 57) (.t 61) (oB false)) 51 false,gM 63 62 51 false,gA 64 4 14 63 true,gD 65 64 63 true,gA 66 6 5 63 true,gD 67 66 63 true,gW 68 (.call (oF 202) [.t 65,.t 67]) 63 true,gW 69 (.pick (.t 63) (.t 68) (oB false)) 51 false,oW 70 (.pick (.t 51) (oB true) (.t 69)),oM 12 70])))
 (.region [oW 71 (.arith .add (.t 46) (oI 1)),oM 46 71]))))
def VB:aM :=
 (oQ [oM 72 12]
 (.cond (.t 72) (.region [oM 73 9,oM 74 11,oL 75 7 5,oW 76 (.build [.int .i64 0,.int .i64 0,.int .i64 0,.int .i64 0,.int .i64 0,.int .i64 0,.nsl,.nsl] [(0,1,.t 74),(1,7,.t 75)]),oW 77 (.buildSlice 206 8 (.agg [.int .i64 0,.int .i64 0,.int .i64 0,.int .i64 0,.int .i64 0,.int .i64 0,.nsl,.nsl]) 1 [(0,.t 76)]),oW 78 (.append 206 8 96 (.t 73) (.t 77)),oM 9 78]) .skip))
def VA:aM :=
 (.region [oW 79 (.arith .add (.t 39) (oI 1)),oM 39 79])
def UU:aM :=
 (oQ [oW 40 (.arith .lss (.t 39) (.t 38))]
 (.seq (.cond (.t 40) .skip (.exit 0))
 (.seq (.block 1 (oQ [oW 41 (.indexAddr 1 (.t 37) (.t 39)),oD 42 41,oM 11 42]
 (oQ [oW 12 (.move (oB false))]
 (.seq (oQ [oA 43 4 3,oD 44 43,oW 45 (.len 1 (.t 44)),oW 46 (.move (oI 0))]
 (.block 2 (.loop UV)))
 VB))))
 VA)))
def UT:aM :=
 (oQ [oW 87 (.arith .lss (.t 86) (.t 85))]
 (.seq (.cond (.t 87) .skip (.exit 6))
 (.seq (.block 7 (oQ [oW 88 (.indexAddr 3 (.t 84) (.t 86)),oL 89 3 88,oW 19 (.alloc 134 3 (.agg [.int .i64 0,.int .i64 0,.nsl])),oS 3 19 89]
 (.region [oM 90 17,oM 91 90,gA 92 0 19 91 false,gA 93 0 92 91 false,gD 94 93 91 false,gM 95 16 91 false,gW 96 (.arith .eql (.t 94) (.t 95)) 91 false,gM 97 96 91 false,gA 98 2 19 97 true,gD 99 98 97 true,gA 100 6 5 97 true,gD 101 100 97 true,gW 102 (.call (oF 202) [.t 99,.t 101]) 97 true,gW 103 (.pick (.t 97) (.t 102) (oB false)) 91 false,oW 104 (.pick (.t 91) (oB true) (.t 103)),oM 17 104])))
 (.region [oW 105 (.arith .add (.t 86) (oI 1)),oM 86 105]))))
def UZ:aM :=
 (oQ [oM 106 17]
 (.cond (.t 106) (.region [oM 107 15,oM 108 16,oA 109 3 5,oL 110 2 109,oA 111 6 5,oD 112 111,oW 113 (.build [.int .i64 0,.int .i64 0,.int .i64 0,.nsl] [(0,1,.t 108),(1,2,.t 110),(3,1,.t 112)]),oW 114 (.buildSlice 282 4 (.agg [.int .i64 0,.int .i64 0,.int .i64 0,.nsl]) 1 [(0,.t 113)]),oW 115 (.append 282 4 48 (.t 107) (.t 114)),oM 15 115]) .skip))
def UY:aM :=
 (.region [oW 116 (.arith .add (.t 80) (oI 1)),oM 80 116])
def US:aM :=
 (oQ [oW 81 (.arith .lss (.t 80) (oI 32))]
 (.seq (.cond (.t 81) .skip (.exit 4))
 (.seq (.block 5 (oQ [oM 82 80,oM 16 82]
 (oQ [oW 17 (.move (oB false))]
 (.seq (oQ [oA 83 5 3,oD 84 83,oW 85 (.len 1 (.t 84)),oW 86 (.move (oI 0))]
 (.block 6 (.loop UT)))
 UZ))))
 UY)))
def UX:aM :=
 (oQ [oM 117 9,oM 118 15,oM 6 117,oM 7 118]
 .ret)
def UW:aM :=
 (oQ [oW 15 (.move (.c .nsl))]
 (.seq (oQ [oW 80 (.move (oI 0))]
 (.block 4 (.loop US)))
 UX))
def ZW:aS:={ntmps:=119,results:=[.t 6,.t 7],mode:=.pure,body :=
 (oQ [oW 3 (.box 37 6 (.t 0)),oW 5 (.box 49 7 (.t 2)),oW 6 (.move (.c .nsl)),oW 7 (.move (.c .nsl))]
 (oQ [oL 20 6 3,oA 21 1 5,oL 22 2 21,oW 23 (.call (oF 196) [.t 20,.t 22]),oM 8 23]
 (.seq (oQ [oM 24 8,oW 25 (.arith .lss (.t 24) (oI 0)),oM 26 25,gA 27 2 3 26 false,gD 28 27 26 false,gM 29 8 26 false,gW 30 (.indexAddr 4 (.t 28) (.t 29)) 26 false,gA 31 3 30 26 false,gD 32 31 26 false,gM 33 1 26 false,gW 34 (.arith .neq (.t 32) (.t 33)) 26 false,oW 35 (.pick (.t 26) (oB true) (.t 34))]
 (.cond (.t 35) (oQ [oW 6 (.move (.c .nsl)),oW 7 (.move (.c .nsl))]
 .ret) .skip))
 (oQ [oW 9 (.move (.c .nsl))]
 (.seq (oQ [oA 36 1 3,oD 37 36,oW 38 (.len 1 (.t 37)),oW 39 (.move (oI 0))]
 (.block 0 (.loop UU)))
 UW)))))}
theorem c122:aH Tryz.prog Tryz.f122 .pure=some ZW:=by kernel_rfl
def Pt:aM :=
 (oQ [oW 8 (.arith .lss (.t 7) (.t 6))]
 (.seq (.cond (.t 8) .skip (.exit 0))
 (.seq (.block 1 (oQ [oM 9 7,oW 10 (.indexAddr 5 (.t 5) (.t 7)),oL 11 5 10,oW 4 (.alloc 94 5 (.agg [.str [],.int .i64 0,.int .i64 0,.int .i64 0,.str []])),oM 3 9,oS 5 4 11]
 (.seq (.draw [oRL 12 5 4,oW 13 (.call (oF 203) [.t 12]),nK 14 (.un .not (.t 13)) .read 1,nK 15 (.move (.t 14)) .read 1,⟨(some 16),.move (.t 3),(some (15,false)),.read,1,false⟩,⟨(some 17),.arith .gtr (.t 16) (oI 0),(some (15,false)),.read,1,false⟩,⟨(some 18),.move (.t 17),(some (15,false)),.read,1,false⟩,⟨(some 19),.move (.t 0),(some (18,true)),.read,1,false⟩,⟨(some 20),.move (.t 3),(some (18,true)),.read,1,false⟩,⟨(some 21),.arith .sub (.t 20) (oI 1),(some (18,true)),.read,1,false⟩,⟨(some 22),.indexAddr 5 (.t 19) (.t 21),(some (18,true)),.read,1,false⟩,⟨(some 23),.fieldAddr 0 (.t 22),(some (18,true)),.read,1,false⟩,⟨(some 24),.load none (.t 23),(some (18,true)),.read,1,false⟩,⟨(some 25),.fieldAddr 0 (.t 4),(some (18,true)),.read,1,false⟩,⟨(some 26),.load none (.t 25),(some (18,true)),.read,1,false⟩,⟨(some 27),.arith .geq (.t 24) (.t 26),(some (18,true)),.read,1,false⟩,⟨(some 28),.pick (.t 18) (.t 27) (oB false),(some (15,false)),.read,1,false⟩,nK 29 (.pick (.t 15) (oB true) (.t 28)) .read 1])
 (.cond (.t 29) (oQ [oW 2 (.move (oB false))]
 .ret) .skip))))
 (.region [oW 30 (.arith .add (.t 7) (oI 1)),oM 7 30]))))
def D1:aM :=
 (oQ [oM 31 0,oW 32 (.len 1 (.t 31)),oW 33 (.arith .leq (.t 32) (oI 5)),oM 2 33]
 .ret)
def BK:aS:={ntmps:=34,results:=[.t 2],mode:=.pure,body :=
 (oQ [oW 2 (.move (oB false))]
 (.seq (oQ [oM 5 0,oW 6 (.len 1 (.t 5)),oW 7 (.move (oI 0))]
 (.block 0 (.loop Pt)))
 D1))}
theorem c125:aH Tryz.prog Tryz.f125 .pure=some BK:=by kernel_rfl
def UO:aM :=
 (.seq (oQ [oM 29 5,oM 30 4,oW 31 (.len 1 (.t 30)),oW 32 (.arith .lss (.t 29) (.t 31))]
 (.cond (.t 32) .skip (.exit 2)))
 (.seq (.block 3 (.seq (.draw [oRM 35 4,oRM 36 5,oR 37 (.indexAddr 1 (.t 35) (.t 36)),oRD 38 37,oRM 39 4,oRM 40 5,oR 41 (.arith .sub (.t 40) (oI 1)),oR 42 (.indexAddr 1 (.t 39) (.t 41)),oRD 43 42,oR 44 (.arith .neq (.t 38) (.t 43))])
 (.cond (.t 44) (oQ [oM 45 0,oM 46 3,oM 47 4,oM 48 5,oW 49 (.indexAddr 1 (.t 47) (.t 48)),oD 50 49,oW 51 (.indexAddr 1 (.t 45) (.t 46)),oS 1 51 50]
 (.region [oM 52 3,oW 53 (.arith .add (.t 52) (oI 1)),oM 3 53])) .skip)))
 (.region [oM 33 5,oW 34 (.arith .add (.t 33) (oI 1)),oM 5 34])))
def UR:aM :=
 (oQ [oM 54 0,oM 55 3,oW 56 (.sliceSl 1 (.t 54) (some (.t 55)) none),oZ (.clear 1 (.int .i64 0) (.t 56))]
 (oQ [oM 57 0,oM 58 3,oW 59 (.sliceSl 1 (.t 57) none (some (.t 58))),oM 2 59]
 .ret))
def UQ:aM :=
 (.region [oM 14 3,oW 15 (.arith .add (.t 14) (oI 1)),oM 3 15])
def UN:aM :=
 (.seq (oQ [oM 10 3,oM 11 0,oW 12 (.len 1 (.t 11)),oW 13 (.arith .lss (.t 10) (.t 12))]
 (.cond (.t 13) .skip (.exit 0)))
 (.seq (.block 1 (.seq (.draw [oRM 16 0,oRM 17 3,oR 18 (.indexAddr 1 (.t 16) (.t 17)),oRD 19 18,oRM 20 0,oRM 21 3,oR 22 (.arith .sub (.t 21) (oI 1)),oR 23 (.indexAddr 1 (.t 20) (.t 22)),oRD 24 23,oR 25 (.arith .eql (.t 19) (.t 24))])
 (.cond (.t 25) (oQ [oM 26 0,oM 27 3,oW 28 (.sliceSl 1 (.t 26) (some (.t 27)) none),oM 4 28]
 (.seq (oQ [oW 5 (.move (oI 1))]
 (.block 2 (.loop UO)))
 UR)) .skip)))
 UQ))
def UP:aM :=
 (oQ [oM 60 0,oM 2 60]
 .ret)
def ZV:aS:={ntmps:=61,results:=[.t 2],mode:=.full,body :=
 (oQ [oW 2 (.move (.c .nsl))]
 (.seq (oQ [oM 6 0,oW 7 (.len 1 (.t 6)),oW 8 (.arith .lss (.t 7) (oI 2))]
 (.cond (.t 8) (oQ [oM 9 0,oM 2 9]
 .ret) .skip))
 (.seq (oQ [oW 3 (.move (oI 1))]
 (.block 0 (.loop UN)))
 UP)))}
theorem c143:aH Tryz.prog Tryz.f143 .full=some ZV:=by kernel_rfl
def He:aM :=
 (.seq (oQ [oM 6 5,oM 7 0,oW 8 (.len 1 (.t 7)),oW 9 (.arith .lss (.t 6) (.t 8))]
 (.cond (.t 9) .skip (.exit 0)))
 (.seq (.block 1 (.seq (.draw [oRM 13 0,oRM 14 5,oR 15 (.arith .sub (.t 14) (oI 1)),oR 16 (.indexAddr 1 (.t 13) (.t 15)),oRD 17 16,oRM 18 0,oRM 19 5,oR 20 (.indexAddr 1 (.t 18) (.t 19)),oRD 21 20,oRM 12 1,oW 22 (.call (.t 12) [.t 17,.t 21]),nK 23 (.un .not (.t 22)) .read 1])
 (.cond (.t 23) (oQ [oW 4 (.move (oB false))]
 .ret) .skip)))
 (.region [oM 10 5,oW 11 (.arith .add (.t 10) (oI 1)),oM 5 11])))
def Ps:aM :=
 (oQ [oW 4 (.move (oB true))]
 .ret)
def BJ:aS:={ntmps:=24,results:=[.t 4],mode:=.pure,body :=
 (oQ [oW 4 (.move (oB false))]
 (.seq (oQ [oW 5 (.move (oI 1))]
 (.block 0 (.loop He)))
 Ps))}
theorem c144:aH Tryz.prog Tryz.f144 .pure=some BJ:=by kernel_rfl
def BI:aS:={ntmps:=8,results:=[.t 4],mode:=.pure,body :=
 (oQ [oW 4 (.move (oB false))]
 (oQ [oM 5 0,oM 6 1,oW 7 (.arith .lss (.t 5) (.t 6)),oM 4 7]
 .ret))}
theorem c145:aH Tryz.prog Tryz.f145 .pure=some BI:=by kernel_rfl
def Hd:aM :=
 (.seq (oQ [oM 6 5,oM 7 0,oW 8 (.len 1 (.t 7)),oW 9 (.arith .lss (.t 6) (.t 8))]
 (.cond (.t 9) .skip (.exit 0)))
 (.seq (.block 1 (.seq (.draw [oRM 13 0,oRM 14 5,oR 15 (.arith .sub (.t 14) (oI 1)),oR 16 (.indexAddr 2 (.t 13) (.t 15)),oRL 17 2 16,oRM 18 0,oRM 19 5,oR 20 (.indexAddr 2 (.t 18) (.t 19)),oRL 21 2 20,oRM 12 1,oW 22 (.call (.t 12) [.t 17,.t 21]),nK 23 (.un .not (.t 22)) .read 1])
 (.cond (.t 23) (oQ [oW 4 (.move (oB false))]
 .ret) .skip)))
 (.region [oM 10 5,oW 11 (.arith .add (.t 10) (oI 1)),oM 5 11])))
def Pr:aM :=
 (oQ [oW 4 (.move (oB true))]
 .ret)
def BH:aS:={ntmps:=24,results:=[.t 4],mode:=.pure,body :=
 (oQ [oW 4 (.move (oB false))]
 (.seq (oQ [oW 5 (.move (oI 1))]
 (.block 0 (.loop Hd)))
 Pr))}
theorem c146:aH Tryz.prog Tryz.f146 .pure=some BH:=by kernel_rfl
def BG:aS:={ntmps:=9,results:=[.t 4],mode:=.pure,body :=
 (oQ [oW 2 (.box 45 2 (.t 0)),oW 3 (.box 45 2 (.t 1)),oW 4 (.move (oB false))]
 (oQ [oL 5 2 2,oL 6 2 3,oW 7 (.call (oF 154) [.t 5,.t 6]),oW 8 (.arith .lss (.t 7) (oI 0)),oM 4 8]
 .ret))}
theorem c147:aH Tryz.prog Tryz.f147 .pure=some BG:=by kernel_rfl
def Hc:aM :=
 (.seq (oQ [oM 6 5,oM 7 0,oW 8 (.len 1 (.t 7)),oW 9 (.arith .lss (.t 6) (.t 8))]
 (.cond (.t 9) .skip (.exit 0)))
 (.seq (.block 1 (.seq (.draw [oRM 13 0,oRM 14 5,oR 15 (.arith .sub (.t 14) (oI 1)),oR 16 (.indexAddr 4 (.t 13) (.t 15)),oRL 17 4 16,oRM 18 0,oRM 19 5,oR 20 (.indexAddr 4 (.t 18) (.t 19)),oRL 21 4 20,oRM 12 1,oW 22 (.call (.t 12) [.t 17,.t 21]),nK 23 (.un .not (.t 22)) .read 1])
 (.cond (.t 23) (oQ [oW 4 (.move (oB false))]
 .ret) .skip)))
 (.region [oM 10 5,oW 11 (.arith .add (.t 10) (oI 1)),oM 5 11])))
def Pq:aM :=
 (oQ [oW 4 (.move (oB true))]
 .ret)
def BF:aS:={ntmps:=24,results:=[.t 4],mode:=.pure,body :=
 (oQ [oW 4 (.move (oB false))]
 (.seq (oQ [oW 5 (.move (oI 1))]
 (.block 0 (.loop Hc)))
 Pq))}
theorem c148:aH Tryz.prog Tryz.f148 .pure=some BF:=by kernel_rfl
def BE:aS:={ntmps:=10,results:=[.t 4],mode:=.pure,body :=
 (oQ [oW 2 (.box 68 4 (.t 0)),oW 3 (.box 68 4 (.t 1)),oW 4 (.move (oB false))]
 (oQ [oA 5 0 2,oL 6 2 5,oA 7 0 3,oL 8 2 7,oW 9 (.call (oF 147) [.t 6,.t 8]),oM 4 9]
 .ret))}
theorem c149:aH Tryz.prog Tryz.f149 .pure=some BE:=by kernel_rfl
def Hb:aM :=
 (.seq (oQ [oM 6 5,oM 7 0,oW 8 (.len 1 (.t 7)),oW 9 (.arith .lss (.t 6) (.t 8))]
 (.cond (.t 9) .skip (.exit 0)))
 (.seq (.block 1 (.seq (.draw [oRM 13 0,oRM 14 5,oR 15 (.arith .sub (.t 14) (oI 1)),oR 16 (.indexAddr 3 (.t 13) (.t 15)),oRL 17 3 16,oRM 18 0,oRM 19 5,oR 20 (.indexAddr 3 (.t 18) (.t 19)),oRL 21 3 20,oRM 12 1,oW 22 (.call (.t 12) [.t 17,.t 21]),nK 23 (.un .not (.t 22)) .read 1])
 (.cond (.t 23) (oQ [oW 4 (.move (oB false))]
 .ret) .skip)))
 (.region [oM 10 5,oW 11 (.arith .add (.t 10) (oI 1)),oM 5 11])))
def Pp:aM :=
 (oQ [oW 4 (.move (oB true))]
 .ret)
def BD:aS:={ntmps:=24,results:=[.t 4],mode:=.pure,body :=
 (oQ [oW 4 (.move (oB false))]
 (.seq (oQ [oW 5 (.move (oI 1))]
 (.block 0 (.loop Hb)))
 Pp))}
theorem c150:aH Tryz.prog Tryz.f150 .pure=some BD:=by kernel_rfl
def BC:aS:={ntmps:=10,results:=[.t 4],mode:=.pure,body :=
 (oQ [oW 2 (.box 134 3 (.t 0)),oW 3 (.box 134 3 (.t 1)),oW 4 (.move (oB false))]
 (oQ [oA 5 0 2,oL 6 2 5,oA 7 0 3,oL 8 2 7,oW 9 (.call (oF 147) [.t 6,.t 8]),oM 4 9]
 .ret))}
theorem c151:aH Tryz.prog Tryz.f151 .pure=some BC:=by kernel_rfl
def Ha:aM :=
 (.seq (oQ [oM 6 5,oM 7 0,oW 8 (.len 1 (.t 7)),oW 9 (.arith .lss (.t 6) (.t 8))]
 (.cond (.t 9) .skip (.exit 0)))
 (.seq (.block 1 (.seq (.draw [oRM 13 0,oRM 14 5,oR 15 (.arith .sub (.t 14) (oI 1)),oR 16 (.indexAddr 7 (.t 13) (.t 15)),oRL 17 7 16,oRM 18 0,oRM 19 5,oR 20 (.indexAddr 7 (.t 18) (.t 19)),oRL 21 7 20,oRM 12 1,oW 22 (.call (.t 12) [.t 17,.t 21]),nK 23 (.un .not (.t 22)) .read 1])
 (.cond (.t 23) (oQ [oW 4 (.move (oB false))]
 .ret) .skip)))
 (.region [oM 10 5,oW 11 (.arith .add (.t 10) (oI 1)),oM 5 11])))
def Po:aM :=
 (oQ [oW 4 (.move (oB true))]
 .ret)
def BB:aS:={ntmps:=24,results:=[.t 4],mode:=.pure,body :=
 (oQ [oW 4 (.move (oB false))]
 (.seq (oQ [oW 5 (.move (oI 1))]
 (.block 0 (.loop Ha)))
 Po))}
theorem c152:aH Tryz.prog Tryz.f152 .pure=some BB:=by kernel_rfl
def BA:aS:={ntmps:=18,results:=[.t 4],mode:=.pure,body :=
 (oQ [oW 2 (.box 70 7 (.t 0)),oW 3 (.box 70 7 (.t 1)),oW 4 (.move (oB false))]
 (.seq (.draw [oRA 5 0 2,oRL 6 2 5,oRA 7 0 3,oRL 8 2 7,nK 9 (.call (oF 154) [.t 6,.t 8]) .create 0,oRA 10 2 2,oRL 11 2 10,oRA 12 2 3,oRL 13 2 12,nK 14 (.call (oF 154) [.t 11,.t 13]) .write 1,nK 15 (.buildSlice 3 1 (.int .i64 0) 2 [(0,.t 9),(1,.t 14)]) .create 0,nK 16 (.call (oF 104) [.t 15]) .write 3,nK 17 (.arith .lss (.t 16) (oI 0)) .read 4,nK 4 (.move (.t 17)) .read 4])
 .ret))}
theorem c153:aH Tryz.prog Tryz.f153 .pure=some BA:=by kernel_rfl
def AZ:aS:={ntmps:=17,results:=[.t 4],mode:=.pure,body :=
 (oQ [oW 2 (.box 45 2 (.t 0)),oW 3 (.box 45 2 (.t 1)),oW 4 (.move (oI 0))]
 (.seq (.draw [oRA 5 0 2,oRD 6 5,oRA 7 0 3,oRD 8 7,nK 9 (.call (oF 105) [.t 6,.t 8]) .create 0,oRA 10 1 2,oRD 11 10,oRA 12 1 3,oRD 13 12,nK 14 (.call (oF 105) [.t 11,.t 13]) .write 1,nK 15 (.buildSlice 3 1 (.int .i64 0) 2 [(0,.t 9),(1,.t 14)]) .create 0,nK 16 (.call (oF 104) [.t 15]) .write 3,nK 4 (.move (.t 16)) .read 4])
 .ret))}
theorem c154:aH Tryz.prog Tryz.f154 .pure=some AZ:=by kernel_rfl
def AY:aS:={ntmps:=9,results:=[.t 4],mode:=.pure,body :=
 (oQ [oW 4 (.move (oB false))]
 (oQ [oM 5 0,oM 6 1,oW 7 (.call (oF 219) [.t 5,.t 6]),oW 8 (.arith .geq (.t 7) (oI 0)),oM 4 8]
 .ret))}
theorem c155:aH Tryz.prog Tryz.f155 .pure=some AY:=by kernel_rfl
end Go.Dm.Tc
