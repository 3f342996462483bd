/- A part of the proof. -/
import Derived.Test.YtegofjiikhlokaaGreatDoorTc0
import Derived.Test.YtegofjiikhlokaaGreatDoorMm3
import Derived.Test.YtegofjiikhlokaaGreatDoorRows
import Derived.KernelRfl
namespace Go.Dm.Tc
open Go.Proofs
def Iw:aN :=
 (oQ [oW 13 (.arith .lss (.t 12) (.t 11))]
 (.seq (.cond (.t 13) .skip (.exit 0))
 (.seq (.block 1 (oQ [oM 14 12,oW 15 (.indexAddr 7 (.t 10) (.t 12)),oL 16 7 15,oW 8 (.alloc 114 7 (.agg [.int .i64 0,.int .i64 0,.int .i64 0,.int .i64 0,.nsl,.int .i64 0,.bool false])),oM 7 14,oS 7 8 16]
 (oQ [oA 17 0 8,oL 18 2 17,oL 19 2 4,oW 20 (.eqa false [1,1] (.t 18) (.t 19)),oM 21 20,gA 22 2 8 21 true,gL 23 2 22 21 true,gL 24 2 5 21 true,gW 25 (.eqa false [1,1] (.t 23) (.t 24)) 21 true,oW 26 (.pick (.t 21) (.t 25) (oB false))]
 (.cond (.t 26) (oQ [oM 27 7,oM 6 27]
 .ret) .skip))))
 (.region [oW 28 (.arith .add (.t 12) (oI 1)),oM 12 28]))))
def Qw:aN :=
 (oQ [oW 6 (.move (oI (-1)))]
 .ret)
def DK:aQ:={ntmps:=29,results:=[.t 6],mode:=.pure,body :=
 (oQ [oW 3 (.box 36 6 (.t 0)),oW 4 (.box 40 2 (.t 1)),oW 5 (.box 40 2 (.t 2)),oW 6 (.move (oI 0))]
 (.seq (oQ [oA 9 4 3,oD 10 9,oW 11 (.len 1 (.t 10)),oW 12 (.move (oI 0))]
 (.block 0 (.loop Iw)))
 Qw))}
theorem c147:aE Tryz.prog Tryz.f147 .pure=some DK:=by kernel_rfl
def Iv:aN :=
 (oQ [oW 13 (.arith .lss (.t 12) (.t 11))]
 (.seq (.cond (.t 13) .skip (.exit 0))
 (.seq (.block 1 (oQ [oW 14 (.indexAddr 7 (.t 10) (.t 12)),oL 15 7 14,oW 8 (.alloc 114 7 (.agg [.int .i64 0,.int .i64 0,.int .i64 0,.int .i64 0,.nsl,.int .i64 0,.bool false])),oS 7 8 15]
 (oQ [oA 16 0 8,oL 17 2 16,oL 18 2 4,oW 19 (.eqa false [1,1] (.t 17) (.t 18)),oM 20 19,gA 21 6 8 20 true,gD 22 21 20 true,oW 23 (.pick (.t 20) (.t 22) (oB false)),oM 24 23,gA 25 4 8 24 true,gD 26 25 24 true,gM 27 2 24 true,gW 28 (.call (oF 184) [.t 26,.t 27]) 24 true,oW 29 (.pick (.t 24) (.t 28) (oB false))]
 (.cond (.t 29) (oQ [oW 6 (.move (oB true))]
 .ret) .skip))))
 (.region [oW 30 (.arith .add (.t 12) (oI 1)),oM 12 30]))))
def Qv:aN :=
 (oQ [oW 6 (.move (oB false))]
 .ret)
def DJ:aQ:={ntmps:=31,results:=[.t 6],mode:=.pure,body :=
 (oQ [oW 3 (.box 36 6 (.t 0)),oW 4 (.box 40 2 (.t 1)),oW 6 (.move (oB false))]
 (.seq (oQ [oA 9 4 3,oD 10 9,oW 11 (.len 1 (.t 10)),oW 12 (.move (oI 0))]
 (.block 0 (.loop Iv)))
 Qv))}
theorem c148:aE Tryz.prog Tryz.f148 .pure=some DJ:=by kernel_rfl
def Iu:aN :=
 (oQ [oW 59 (.arith .lss (.t 58) (.t 57))]
 (.seq (.cond (.t 59) .skip (.exit 0))
 (.seq (.block 1 (oQ [oM 60 58,oM 14 60]
 (oQ [oA 61 4 4,oD 62 61,oM 63 14,oW 64 (.indexAddr 7 (.t 62) (.t 63)),oL 65 7 64,oW 15 (.alloc 114 7 (.agg [.int .i64 0,.int .i64 0,.int .i64 0,.int .i64 0,.nsl,.int .i64 0,.bool false])),oS 7 15 65]
 (oQ [oA 66 0 15,oL 67 2 66,oL 68 2 5,oW 69 (.eqa false [1,1] (.t 67) (.t 68)),oM 70 69,gA 71 6 15 70 true,gD 72 71 70 true,gW 73 (.un .not (.t 72)) 70 true,oW 74 (.pick (.t 70) (.t 73) (oB false)),oM 75 74,gL 76 6 4 75 true,gL 77 2 5 75 true,gA 78 4 15 75 true,gD 79 78 75 true,gW 80 (.call (oF 148) [.t 76,.t 77,.t 79]) 75 true,gW 81 (.un .not (.t 80)) 75 true,oW 82 (.pick (.t 75) (.t 81) (oB false))]
 (.cond (.t 82) (oQ [oW 83 (.buildSlice 114 7 (.agg [.int .i64 0,.int .i64 0,.int .i64 0,.int .i64 0,.nsl,.int .i64 0,.bool false]) 0 []),oA 84 4 4,oD 85 84,oW 86 (.append 114 7 72 (.t 83) (.t 85)),oA 87 4 4,oS 1 87 86]
 (oQ [oA 88 4 4,oD 89 88,oM 90 14,oW 91 (.indexAddr 7 (.t 89) (.t 90)),oA 92 6 91,oZ (.store 1 (.t 92) (oB true))]
 (.region [oM 93 13,oA 94 4 4,oD 95 94,oM 96 14,oW 97 (.indexAddr 7 (.t 95) (.t 96)),oL 98 7 97,oW 99 (.buildSlice 114 7 (.agg [.int .i64 0,.int .i64 0,.int .i64 0,.int .i64 0,.nsl,.int .i64 0,.bool false]) 1 [(0,.t 98)]),oW 100 (.append 114 7 72 (.t 93) (.t 99)),oM 13 100]))) .skip)))))
 (.region [oW 101 (.arith .add (.t 58) (oI 1)),oM 58 101]))))
def Ek:aN :=
 (oQ [oL 102 6 4,oM 103 13,oS 6 8 102,oM 9 103,oW 10 (.move (oB true))]
 .ret)
def Qu:aQ:={ntmps:=104,results:=[(.cell 8 (some 6)),.t 9,.t 10],mode:=.frz,body :=
 (oQ [oW 4 (.box 36 6 (.t 0)),oW 5 (.box 40 2 (.t 1)),oW 6 (.box 40 2 (.t 2)),oW 8 (.alloc 36 6 (.agg [.int .i64 0,.nsl,.nsl,.nsl,.nsl,.nsl])),oW 9 (.move (.c .nsl)),oW 10 (.move (oB false))]
 (oQ [oL 16 6 4,oL 17 2 5,oL 18 2 6,oW 19 (.call (oF 147) [.t 16,.t 17,.t 18]),oM 11 19]
 (.seq (oQ [oM 20 11,oW 21 (.arith .lss (.t 20) (oI 0)),oM 22 21,gA 23 4 4 22 false,gD 24 23 22 false,gM 25 11 22 false,gW 26 (.indexAddr 7 (.t 24) (.t 25)) 22 false,gA 27 5 26 22 false,gD 28 27 22 false,gM 29 3 22 false,gW 30 (.arith .neq (.t 28) (.t 29)) 22 false,oW 31 (.pick (.t 22) (oB true) (.t 30))]
 (.cond (.t 31) (oQ [oL 32 6 4,oS 6 8 32,oW 9 (.move (.c .nsl)),oW 10 (.move (oB false))]
 .ret) .skip))
 (oQ [oA 33 4 4,oD 34 33,oM 35 11,oW 36 (.indexAddr 7 (.t 34) (.t 35)),oA 37 6 36,oD 38 37,oM 12 38]
 (.seq (.draw [oRA 40 4 4,oRD 41 40,oRM 42 11,oR 43 (.sliceSl 7 (.t 41) none (some (.t 42))),nK 39 (.buildSlice 114 7 (.agg [.int .i64 0,.int .i64 0,.int .i64 0,.int .i64 0,.nsl,.int .i64 0,.bool false]) 0 []) .create 0,nK 44 (.append 114 7 72 (.t 39) (.t 43)) .create 0,oRA 45 4 4,oRD 46 45,oRM 47 11,oR 48 (.arith .add (.t 47) (oI 1)),oR 49 (.sliceSl 7 (.t 46) (some (.t 48)) none),nK 50 (.append 114 7 72 (.t 44) (.t 49)) .write 2,nK 51 (.fieldAddr 4 (.t 4)) .read 3,⟨none,.store 1 (.t 51) (.t 50),none,.write,3,false⟩])
 (.seq (oQ [oM 52 12,oW 53 (.un .not (.t 52))]
 (.cond (.t 53) (oQ [oL 54 6 4,oS 6 8 54,oW 9 (.move (.c .nsl)),oW 10 (.move (oB false))]
 .ret) .skip))
 (oQ [oW 13 (.move (.c .nsl))]
 (.seq (oQ [oA 55 4 4,oD 56 55,oW 57 (.len 1 (.t 56)),oW 58 (.move (oI 0))]
 (.block 0 (.loop Iu)))
 Ek))))))))}
theorem c149:aE Tryz.prog Tryz.f149 .frz=some Qu:=by kernel_rfl
def Qt:aN :=
 (oQ [oW 11 (.arith .lss (.t 10) (.t 9))]
 (.seq (.cond (.t 11) .skip (.exit 0))
 (.seq (.block 1 (oQ [oW 12 (.indexAddr 2 (.t 8) (.t 10)),oL 13 2 12,oW 6 (.alloc 40 2 (.agg [.int .i64 0,.int .i64 0])),oS 2 6 13]
 (oQ [oL 14 2 6,oL 15 2 3,oW 16 (.eqa false [1,1] (.t 14) (.t 15))]
 (.cond (.t 16) (oQ [oW 4 (.move (oB true))]
 .ret) .skip))))
 (.region [oW 17 (.arith .add (.t 10) (oI 1)),oM 10 17]))))
def I9:aN :=
 (oQ [oW 4 (.move (oB false))]
 .ret)
def DI:aQ:={ntmps:=18,results:=[.t 4],mode:=.pure,body :=
 (oQ [oW 2 (.box 36 6 (.t 0)),oW 3 (.box 40 2 (.t 1)),oW 4 (.move (oB false))]
 (.seq (oQ [oA 7 3 2,oD 8 7,oW 9 (.len 1 (.t 8)),oW 10 (.move (oI 0))]
 (.block 0 (.loop Qt)))
 I9))}
theorem c150:aE Tryz.prog Tryz.f150 .pure=some DI:=by kernel_rfl
def KM:aQ:={ntmps:=24,results:=[(.cell 2 (some 6))],mode:=.full,body :=
 (oQ [oW 1 (.box 36 6 (.t 0)),oW 2 (.alloc 36 6 (.agg [.int .i64 0,.nsl,.nsl,.nsl,.nsl,.nsl]))]
 (.seq (.draw [oRA 3 1 1,oRD 4 3,nK 5 (.call (oF 112) [.t 4]) .create 0,oRA 6 2 1,oRD 7 6,nK 8 (.call (oF 185) [.t 7]) .create 0,oRA 9 3 1,oRD 10 9,nK 11 (.call (oF 186) [.t 10]) .create 0,oRA 12 4 1,oRD 13 12,nK 14 (.call (oF 155) [.t 13]) .create 0,oRA 15 5 1,oRD 16 15,nK 17 (.call (oF 187) [.t 16]) .write 4,nK 18 (.fieldAddr 1 (.t 1)) .read 1,⟨none,.store 1 (.t 18) (.t 5),none,.write,5,false⟩,nK 19 (.fieldAddr 2 (.t 1)) .read 6,⟨none,.store 1 (.t 19) (.t 8),none,.write,6,false⟩,nK 20 (.fieldAddr 3 (.t 1)) .read 7,⟨none,.store 1 (.t 20) (.t 11),none,.write,7,false⟩,nK 21 (.fieldAddr 4 (.t 1)) .read 8,⟨none,.store 1 (.t 21) (.t 14),none,.write,8,false⟩,nK 22 (.fieldAddr 5 (.t 1)) .read 9,⟨none,.store 1 (.t 22) (.t 17),none,.write,9,false⟩])
 (oQ [oL 23 6 1,oS 6 2 23]
 .ret)))}
theorem c151:aE Tryz.prog Tryz.f151 .full=some KM:=by kernel_rfl
def Aj:aQ:={ntmps:=95,results:=[.t 6],mode:=.split,body :=
 (oQ [oW 6 (.move (.c .nsl))]
 (oQ [oM 10 0,oM 11 1,oW 12 (.sliceSl 4 (.t 10) (some (.t 11)) none)]
 (oQ [oM 13 2,oW 14 (.len 1 (.t 13)),oM 7 14]
 (.seq (oQ [oM 15 7,oW 16 (.arith .eql (.t 15) (oI 0))]
 (.cond (.t 16) (oQ [oM 17 0,oM 6 17]
 .ret) .skip))
 (oQ [oM 18 0,oW 19 (.len 1 (.t 18)),oM 8 19]
 (.seq (oQ [oM 20 1,oM 21 8,oW 22 (.arith .eql (.t 20) (.t 21))]
 (.cond (.t 22) (oQ [oM 23 0,oM 24 2,oW 25 (.append 93 4 48 (.t 23) (.t 24)),oM 6 25]
 .ret) .skip))
 (.seq (oQ [oM 26 8,oM 27 7,oW 28 (.arith .add (.t 26) (.t 27)),oM 29 0,oW 30 (.cap (.t 29)),oW 31 (.arith .gtr (.t 28) (.t 30))]
 (.cond (.t 31) (oQ [oM 32 0,oM 33 1,oW 34 (.sliceSl 4 (.t 32) none (some (.t 33))),oM 35 8,oM 36 7,oW 37 (.arith .add (.t 35) (.t 36)),oM 38 1,oW 39 (.arith .sub (.t 37) (.t 38)),oW 40 (.appendZ 93 4 48 (.agg [.int .i64 0,.int .i64 0,.nsl,.int .i64 0]) (.t 34) (.t 39)),oM 9 40]
 (oQ [oM 41 9,oM 42 1,oW 43 (.sliceSl 4 (.t 41) (some (.t 42)) none),oM 44 2,oW 45 (.copy 4 (.t 43) (.t 44))]
 (.seq (.draw [oRM 46 9,oRM 47 1,oRM 48 7,oR 49 (.arith .add (.t 47) (.t 48)),oR 50 (.sliceSl 4 (.t 46) (some (.t 49)) none),oRM 51 0,oRM 52 1,oR 53 (.sliceSl 4 (.t 51) (some (.t 52)) none),oW 54 (.copy 4 (.t 50) (.t 53))])
 (oQ [oM 55 9,oM 6 55]
 .ret)))) .skip))
 (oQ [oM 56 0,oM 57 8,oM 58 7,oW 59 (.arith .add (.t 57) (.t 58)),oW 60 (.sliceSl 4 (.t 56) none (some (.t 59))),oM 0 60]
 (.seq (oQ [oM 61 2,oM 62 0,oM 63 1,oM 64 7,oW 65 (.arith .add (.t 63) (.t 64)),oW 66 (.sliceSl 4 (.t 62) (some (.t 65)) none),oW 67 (.call (oF 188) [.t 61,.t 66]),oW 68 (.un .not (.t 67))]
 (.cond (.t 68) (.seq (.draw [oRM 69 0,oRM 70 1,oRM 71 7,oR 72 (.arith .add (.t 70) (.t 71)),oR 73 (.sliceSl 4 (.t 69) (some (.t 72)) none),oRM 74 0,oRM 75 1,oR 76 (.sliceSl 4 (.t 74) (some (.t 75)) none),oW 77 (.copy 4 (.t 73) (.t 76))])
 (oQ [oM 78 0,oM 79 1,oW 80 (.sliceSl 4 (.t 78) (some (.t 79)) none),oM 81 2,oW 82 (.copy 4 (.t 80) (.t 81))]
 (oQ [oM 83 0,oM 6 83]
 .ret))) .skip))
 (oQ [oM 84 0,oM 85 8,oW 86 (.sliceSl 4 (.t 84) (some (.t 85)) none),oM 87 2,oW 88 (.copy 4 (.t 86) (.t 87))]
 (oQ [oM 89 0,oM 90 1,oW 91 (.sliceSl 4 (.t 89) (some (.t 90)) none),oM 92 7,oW 93 (.call (oF 189) [.t 91,.t 92])]
 (oQ [oM 94 0,oM 6 94]
 .ret))))))))))))}
theorem c152:aE Tryz.prog Tryz.f152 .split=some Aj:=by kernel_rfl
def Ai:aQ:={ntmps:=95,results:=[.t 6],mode:=.split,body :=
 (oQ [oW 6 (.move (.c .nsl))]
 (oQ [oM 10 0,oM 11 1,oW 12 (.sliceSl 2 (.t 10) (some (.t 11)) none)]
 (oQ [oM 13 2,oW 14 (.len 1 (.t 13)),oM 7 14]
 (.seq (oQ [oM 15 7,oW 16 (.arith .eql (.t 15) (oI 0))]
 (.cond (.t 16) (oQ [oM 17 0,oM 6 17]
 .ret) .skip))
 (oQ [oM 18 0,oW 19 (.len 1 (.t 18)),oM 8 19]
 (.seq (oQ [oM 20 1,oM 21 8,oW 22 (.arith .eql (.t 20) (.t 21))]
 (.cond (.t 22) (oQ [oM 23 0,oM 24 2,oW 25 (.append 40 2 16 (.t 23) (.t 24)),oM 6 25]
 .ret) .skip))
 (.seq (oQ [oM 26 8,oM 27 7,oW 28 (.arith .add (.t 26) (.t 27)),oM 29 0,oW 30 (.cap (.t 29)),oW 31 (.arith .gtr (.t 28) (.t 30))]
 (.cond (.t 31) (oQ [oM 32 0,oM 33 1,oW 34 (.sliceSl 2 (.t 32) none (some (.t 33))),oM 35 8,oM 36 7,oW 37 (.arith .add (.t 35) (.t 36)),oM 38 1,oW 39 (.arith .sub (.t 37) (.t 38)),oW 40 (.appendZ 40 2 16 (.agg [.int .i64 0,.int .i64 0]) (.t 34) (.t 39)),oM 9 40]
 (oQ [oM 41 9,oM 42 1,oW 43 (.sliceSl 2 (.t 41) (some (.t 42)) none),oM 44 2,oW 45 (.copy 2 (.t 43) (.t 44))]
 (.seq (.draw [oRM 46 9,oRM 47 1,oRM 48 7,oR 49 (.arith .add (.t 47) (.t 48)),oR 50 (.sliceSl 2 (.t 46) (some (.t 49)) none),oRM 51 0,oRM 52 1,oR 53 (.sliceSl 2 (.t 51) (some (.t 52)) none),oW 54 (.copy 2 (.t 50) (.t 53))])
 (oQ [oM 55 9,oM 6 55]
 .ret)))) .skip))
 (oQ [oM 56 0,oM 57 8,oM 58 7,oW 59 (.arith .add (.t 57) (.t 58)),oW 60 (.sliceSl 2 (.t 56) none (some (.t 59))),oM 0 60]
 (.seq (oQ [oM 61 2,oM 62 0,oM 63 1,oM 64 7,oW 65 (.arith .add (.t 63) (.t 64)),oW 66 (.sliceSl 2 (.t 62) (some (.t 65)) none),oW 67 (.call (oF 190) [.t 61,.t 66]),oW 68 (.un .not (.t 67))]
 (.cond (.t 68) (.seq (.draw [oRM 69 0,oRM 70 1,oRM 71 7,oR 72 (.arith .add (.t 70) (.t 71)),oR 73 (.sliceSl 2 (.t 69) (some (.t 72)) none),oRM 74 0,oRM 75 1,oR 76 (.sliceSl 2 (.t 74) (some (.t 75)) none),oW 77 (.copy 2 (.t 73) (.t 76))])
 (oQ [oM 78 0,oM 79 1,oW 80 (.sliceSl 2 (.t 78) (some (.t 79)) none),oM 81 2,oW 82 (.copy 2 (.t 80) (.t 81))]
 (oQ [oM 83 0,oM 6 83]
 .ret))) .skip))
 (oQ [oM 84 0,oM 85 8,oW 86 (.sliceSl 2 (.t 84) (some (.t 85)) none),oM 87 2,oW 88 (.copy 2 (.t 86) (.t 87))]
 (oQ [oM 89 0,oM 90 1,oW 91 (.sliceSl 2 (.t 89) (some (.t 90)) none),oM 92 7,oW 93 (.call (oF 191) [.t 91,.t 92])]
 (oQ [oM 94 0,oM 6 94]
 .ret))))))))))))}
theorem c153:aE Tryz.prog Tryz.f153 .split=some Ai:=by kernel_rfl
def DH:aQ:={ntmps:=21,results:=[.t 4,.t 5],mode:=.pure,body :=
 (oQ [oW 4 (.move (.c .nsl)),oW 5 (.move (oB false))]
 (oQ [oW 9 (.buildSlice 96 5 (.agg [.str [],.int .i64 0,.int .i64 0,.int .i64 0,.str []]) 0 []),oM 10 0,oW 11 (.append 96 5 56 (.t 9) (.t 10)),oM 12 1,oW 13 (.append 96 5 56 (.t 11) (.t 12)),oW 14 (.call (oF 192) [.t 13]),oM 8 14,oX 15 8 0,oX 16 8 1,oM 6 15,oM 7 16]
 (.seq (oQ [oM 17 7,oW 18 (.eqn 4 true (.t 17) (.c .nili))]
 (.cond (.t 18) (oQ [oW 4 (.move (.c .nsl)),oW 5 (.move (oB false))]
 .ret) .skip))
 (oQ [oM 19 6,oW 20 (.call (oF 193) [.t 19]),oM 4 20,oW 5 (.move (oB true))]
 .ret))))}
theorem c154:aE Tryz.prog Tryz.f154 .pure=some DH:=by kernel_rfl
def DG:aQ:={ntmps:=15,results:=[.t 6,.t 7],mode:=.pure,body :=
 (oQ [oW 3 (.box 36 6 (.t 0)),oW 4 (.box 40 2 (.t 1)),oW 5 (.box 40 2 (.t 2)),oW 6 (.move (oI 0)),oW 7 (.move (oB false))]
 (oQ [oA 8 4 3,oD 9 8,oL 10 2 5,oW 11 (.makeFunc 195 [.t 4]),oW 12 (.call (oF 194) [.t 9,.t 10,.t 11]),oX 13 12 0,oX 14 12 1,oM 6 13,oM 7 14]
 .ret))}
theorem c156:aE Tryz.prog Tryz.f156 .pure=some DG:=by kernel_rfl
def Ah:aQ:={ntmps:=95,results:=[.t 6],mode:=.split,body :=
 (oQ [oW 6 (.move (.c .nsl))]
 (oQ [oM 10 0,oM 11 1,oW 12 (.sliceSl 7 (.t 10) (some (.t 11)) none)]
 (oQ [oM 13 2,oW 14 (.len 1 (.t 13)),oM 7 14]
 (.seq (oQ [oM 15 7,oW 16 (.arith .eql (.t 15) (oI 0))]
 (.cond (.t 16) (oQ [oM 17 0,oM 6 17]
 .ret) .skip))
 (oQ [oM 18 0,oW 19 (.len 1 (.t 18)),oM 8 19]
 (.seq (oQ [oM 20 1,oM 21 8,oW 22 (.arith .eql (.t 20) (.t 21))]
 (.cond (.t 22) (oQ [oM 23 0,oM 24 2,oW 25 (.append 114 7 72 (.t 23) (.t 24)),oM 6 25]
 .ret) .skip))
 (.seq (oQ [oM 26 8,oM 27 7,oW 28 (.arith .add (.t 26) (.t 27)),oM 29 0,oW 30 (.cap (.t 29)),oW 31 (.arith .gtr (.t 28) (.t 30))]
 (.cond (.t 31) (oQ [oM 32 0,oM 33 1,oW 34 (.sliceSl 7 (.t 32) none (some (.t 33))),oM 35 8,oM 36 7,oW 37 (.arith .add (.t 35) (.t 36)),oM 38 1,oW 39 (.arith .sub (.t 37) (.t 38)),oW 40 (.appendZ 114 7 72 (.agg [.int .i64 0,.int .i64 0,.int .i64 0,.int .i64 0,.nsl,.int .i64 0,.bool false]) (.t 34) (.t 39)),oM 9 40]
 (oQ [oM 41 9,oM 42 1,oW 43 (.sliceSl 7 (.t 41) (some (.t 42)) none),oM 44 2,oW 45 (.copy 7 (.t 43) (.t 44))]
 (.seq (.draw [oRM 46 9,oRM 47 1,oRM 48 7,oR 49 (.arith .add (.t 47) (.t 48)),oR 50 (.sliceSl 7 (.t 46) (some (.t 49)) none),oRM 51 0,oRM 52 1,oR 53 (.sliceSl 7 (.t 51) (some (.t 52)) none),oW 54 (.copy 7 (.t 50) (.t 53))])
 (oQ [oM 55 9,oM 6 55]
 .ret)))) .skip))
 (oQ [oM 56 0,oM 57 8,oM 58 7,oW 59 (.arith .add (.t 57) (.t 58)),oW 60 (.sliceSl 7 (.t 56) none (some (.t 59))),oM 0 60]
 (.seq (oQ [oM 61 2,oM 62 0,oM 63 1,oM 64 7,oW 65 (.arith .add (.t 63) (.t 64)),oW 66 (.sliceSl 7 (.t 62) (some (.t 65)) none),oW 67 (.call (oF 196) [.t 61,.t 66]),oW 68 (.un .not (.t 67))]
 (.cond (.t 68) (.seq (.draw [oRM 69 0,oRM 70 1,oRM 71 7,oR 72 (.arith .add (.t 70) (.t 71)),oR 73 (.sliceSl 7 (.t 69) (some (.t 72)) none),oRM 74 0,oRM 75 1,oR 76 (.sliceSl 7 (.t 74) (some (.t 75)) none),oW 77 (.copy 7 (.t 73) (.t 76))])
 (oQ [oM 78 0,oM 79 1,oW 80 (.sliceSl 7 (.t 78) (some (.t 79)) none),oM 81 2,oW 82 (.copy 7 (.t 80) (.t 81))]
 (oQ [oM 83 0,oM 6 83]
 .ret))) .skip))
 (oQ [oM 84 0,oM 85 8,oW 86 (.sliceSl 7 (.t 84) (some (.t 85)) none),oM 87 2,oW 88 (.copy 7 (.t 86) (.t 87))]
 (oQ [oM 89 0,oM 90 1,oW 91 (.sliceSl 7 (.t 89) (some (.t 90)) none),oM 92 7,oW 93 (.call (oF 197) [.t 91,.t 92])]
 (oQ [oM 94 0,oM 6 94]
 .ret))))))))))))}
theorem c157:aE Tryz.prog Tryz.f157 .split=some Ah:=by kernel_rfl
def DF:aQ:={ntmps:=33,results:=[.t 6],mode:=.full,body :=
 (oQ [oW 6 (.move (.c .nsl))]
 (oQ [oM 8 0,oM 9 1,oM 10 2,oM 11 0,oW 12 (.len 1 (.t 11)),oW 13 (.slice3 (.t 8) (.t 9) (.t 10) (.t 12))]
 (.seq (oQ [oM 14 1,oM 15 2,oW 16 (.arith .eql (.t 14) (.t 15))]
 (.cond (.t 16) (oQ [oM 17 0,oM 6 17]
 .ret) .skip))
 (oQ [oM 18 0,oW 19 (.len 1 (.t 18)),oM 7 19]
 (.seq (.draw [oRM 20 0,oRM 21 1,oR 22 (.sliceSl 4 (.t 20) none (some (.t 21))),oRM 23 0,oRM 24 2,oR 25 (.sliceSl 4 (.t 23) (some (.t 24)) none),oW 26 (.append 93 4 48 (.t 22) (.t 25)),nK 0 (.move (.t 26)) .read 1])
 (oQ [oM 27 0,oM 28 0,oW 29 (.len 1 (.t 28)),oM 30 7,oW 31 (.sliceSl 4 (.t 27) (some (.t 29)) (some (.t 30))),oZ (.clear 4 (.agg [.int .i64 0,.int .i64 0,.nsl,.int .i64 0]) (.t 31))]
 (oQ [oM 32 0,oM 6 32]
 .ret)))))))}
theorem c158:aE Tryz.prog Tryz.f158 .full=some DF:=by kernel_rfl
def Qs:aN :=
 (.seq (oQ [oM 16 6,oM 17 0,oW 18 (.len 1 (.t 17)),oW 19 (.arith .lss (.t 16) (.t 18))]
 (.cond (.t 19) .skip (.exit 0)))
 (.seq (.block 1 (oQ [oM 22 0,oM 23 6,oW 24 (.indexAddr 7 (.t 22) (.t 23)),oL 25 7 24,oW 7 (.alloc 114 7 (.agg [.int .i64 0,.int .i64 0,.int .i64 0,.int .i64 0,.nsl,.int .i64 0,.bool false])),oS 7 7 25]
 (oQ [oM 26 1,oL 27 7 7,oW 28 (.call (.t 26) [.t 27]),oW 29 (.un .not (.t 28))]
 (.cond (.t 29) (oQ [oM 30 0,oM 31 5,oL 32 7 7,oW 33 (.indexAddr 7 (.t 30) (.t 31)),oS 7 33 32]
 (.region [oM 34 5,oW 35 (.arith .add (.t 34) (oI 1)),oM 5 35])) .skip))))
 (.region [oM 20 6,oW 21 (.arith .add (.t 20) (oI 1)),oM 6 21])))
def I8:aN :=
 (oQ [oM 36 0,oM 37 5,oW 38 (.sliceSl 7 (.t 36) (some (.t 37)) none),oZ (.clear 7 (.agg [.int .i64 0,.int .i64 0,.int .i64 0,.int .i64 0,.nsl,.int .i64 0,.bool false]) (.t 38))]
 (oQ [oM 39 0,oM 40 5,oW 41 (.sliceSl 7 (.t 39) none (some (.t 40))),oM 4 41]
 .ret))
def DE:aQ:={ntmps:=42,results:=[.t 4],mode:=.full,body :=
 (oQ [oW 4 (.move (.c .nsl))]
 (oQ [oM 8 0,oM 9 1,oW 10 (.call (oF 139) [.t 8,.t 9]),oM 5 10]
 (.seq (oQ [oM 11 5,oW 12 (.arith .eql (.t 11) (oI (-1)))]
 (.cond (.t 12) (oQ [oM 13 0,oM 4 13]
 .ret) .skip))
 (.seq (oQ [oM 14 5,oW 15 (.arith .add (.t 14) (oI 1)),oM 6 15]
 (.block 0 (.loop Qs)))
 I8))))}
theorem c159:aE Tryz.prog Tryz.f159 .full=some DE:=by kernel_rfl
def DD:aQ:={ntmps:=8,results:=[.t 3],mode:=.pure,body :=
 (oQ [oW 2 (.box 114 7 (.t 0)),oW 3 (.move (oB false))]
 (oQ [oA 4 0 2,oL 5 2 4,oL 6 2 1,oW 7 (.eqa false [1,1] (.t 5) (.t 6)),oM 3 7]
 .ret))}
theorem c160:aE Tryz.prog Tryz.f160 .pure=some DD:=by kernel_rfl
def Ej:aN :=
 (oQ [oW 59 (.arith .lss (.t 58) (.t 57))]
 (.seq (.cond (.t 59) .skip (.exit 0))
 (.seq (.block 1 (oQ [oM 60 58,oW 61 (.indexAddr 7 (.t 56) (.t 58)),oL 62 7 61,oW 14 (.alloc 114 7 (.agg [.int .i64 0,.int .i64 0,.int .i64 0,.int .i64 0,.nsl,.int .i64 0,.bool false])),oM 13 60,oS 7 14 62]
 (oQ [oA 63 0 14,oL 64 2 63,oL 65 2 5,oW 66 (.eqa false [1,1] (.t 64) (.t 65)),oM 67 66,gA 68 6 14 67 true,gD 69 68 67 true,gW 70 (.un .not (.t 69)) 67 true,oW 71 (.pick (.t 67) (.t 70) (oB false)),oM 72 71,gL 73 6 4 72 true,gL 74 2 5 72 true,gA 75 4 14 72 true,gD 76 75 72 true,gW 77 (.call (oF 90) [.t 73,.t 74,.t 76]) 72 true,gW 78 (.un .not (.t 77)) 72 true,oW 79 (.pick (.t 72) (.t 78) (oB false))]
 (.cond (.t 79) (oQ [oA 80 4 4,oD 81 80,oM 82 13,oW 83 (.indexAddr 7 (.t 81) (.t 82)),oA 84 6 83,oZ (.store 1 (.t 84) (oB true))]
 (.region [oM 85 9,oA 86 4 4,oD 87 86,oM 88 13,oW 89 (.indexAddr 7 (.t 87) (.t 88)),oL 90 7 89,oW 91 (.buildSlice 114 7 (.agg [.int .i64 0,.int .i64 0,.int .i64 0,.int .i64 0,.nsl,.int .i64 0,.bool false]) 1 [(0,.t 90)]),oW 92 (.append 114 7 72 (.t 85) (.t 91)),oM 9 92])) .skip))))
 (.region [oW 93 (.arith .add (.t 58) (oI 1)),oM 58 93]))))
def Ag:aN :=
 (oQ [oL 94 6 4,oM 95 9,oS 6 8 94,oM 9 95,oW 10 (.move (oB true))]
 .ret)
def I7:aQ:={ntmps:=96,results:=[(.cell 8 (some 6)),.t 9,.t 10],mode:=.frz,body :=
 (oQ [oW 4 (.box 36 6 (.t 0)),oW 5 (.box 40 2 (.t 1)),oW 6 (.box 40 2 (.t 2)),oW 8 (.alloc 36 6 (.agg [.int .i64 0,.nsl,.nsl,.nsl,.nsl,.nsl])),oW 9 (.move (.c .nsl)),oW 10 (.move (oB false))]
 (oQ [oA 15 4 4,oD 16 15,oW 17 (.call (oF 155) [.t 16]),oA 18 4 4,oS 1 18 17]
 (oQ [oL 20 6 4,oL 21 2 5,oL 22 2 6,oW 23 (.call (oF 156) [.t 20,.t 21,.t 22]),oM 19 23,oX 24 19 0,oX 25 19 1,oM 11 24,oM 12 25]
 (.seq (oQ [oM 26 12,oW 27 (.un .not (.t 26)),oM 28 27,gA 29 4 4 28 false,gD 30 29 28 false,gM 31 11 28 false,gW 32 (.indexAddr 7 (.t 30) (.t 31)) 28 false,gA 33 5 32 28 false,gD 34 33 28 false,gM 35 3 28 false,gW 36 (.arith .neq (.t 34) (.t 35)) 28 false,oW 37 (.pick (.t 28) (oB true) (.t 36))]
 (.cond (.t 37) (oQ [oL 38 6 4,oS 6 8 38,oW 9 (.move (.c .nsl)),oW 10 (.move (oB false))]
 .ret) .skip))
 (oQ [oA 39 4 4,oD 40 39,oM 41 11,oW 42 (.indexAddr 7 (.t 40) (.t 41)),oA 43 6 42,oD 44 43,oM 10 44]
 (oQ [oA 45 4 4,oD 46 45,oM 47 11,oM 48 11,oW 49 (.arith .add (.t 48) (oI 1)),oW 50 (.call (oF 198) [.t 46,.t 47,.t 49]),oA 51 4 4,oS 1 51 50]
 (.seq (oQ [oM 52 10,oW 53 (.un .not (.t 52))]
 (.cond (.t 53) (oQ [oL 54 6 4,oS 6 8 54,oW 9 (.move (.c .nsl)),oW 10 (.move (oB false))]
 .ret) .skip))
 (.seq (oQ [oA 55 4 4,oD 56 55,oW 57 (.len 1 (.t 56)),oW 58 (.move (oI 0))]
 (.block 0 (.loop Ej)))
 Ag))))))))}
theorem c161:aE Tryz.prog Tryz.f161 .frz=some I7:=by kernel_rfl
def Qq:aN :=
 (oQ [oW 12 (.arith .lss (.t 11) (.t 10))]
 (.seq (.cond (.t 12) .skip (.exit 0))
 (.seq (.block 1 (oQ [oW 13 (.indexAddr 5 (.t 9) (.t 11)),oL 14 5 13,oW 6 (.alloc 96 5 (.agg [.str [],.int .i64 0,.int .i64 0,.int .i64 0,.str []])),oS 5 6 14]
 (oQ [oM 16 1,oA 17 0 6,oD 18 17,oW 19 (.call (oF 199) [.t 16,.t 18]),oM 15 19,oX 20 15 0,oX 21 15 1,oW 7 (.alloc 106 3 (.agg [.bool false,.int .i64 0,.str []])),oS 3 7 20,oM 8 21]
 (oQ [oM 22 8,oW 23 (.un .not (.t 22)),oM 24 23,gL 25 5 6 24 false,gL 26 3 7 24 false,gW 27 (.call (oF 200) [.t 25,.t 26]) 24 false,gW 28 (.un .not (.t 27)) 24 false,oW 29 (.pick (.t 24) (oB true) (.t 28))]
 (.cond (.t 29) (oQ [oW 4 (.move (oB false))]
 .ret) .skip)))))
 (.region [oW 30 (.arith .add (.t 11) (oI 1)),oM 11 30]))))
def I6:aN :=
 (oQ [oW 4 (.move (oB true))]
 .ret)
def Qr:aQ:={ntmps:=31,results:=[.t 4],mode:=.pure,body :=
 (oQ [oW 4 (.move (oB false))]
 (.seq (oQ [oM 9 0,oW 10 (.len 1 (.t 9)),oW 11 (.move (oI 0))]
 (.block 0 (.loop Qq)))
 I6))}
theorem c162:aE Tryz.prog Tryz.f162 .pure=some Qr:=by kernel_rfl
def I5:aQ:={ntmps:=7,results:=[.t 2],mode:=.full,body :=
 (oQ [oW 2 (.move (.c .nsl))]
 (oQ [oM 3 0,oW 4 (.call (oF 113) [.t 3])]
 (oQ [oM 5 0,oW 6 (.call (oF 114) [.t 5]),oM 2 6]
 .ret)))}
theorem c163:aE Tryz.prog Tryz.f163 .full=some I5:=by kernel_rfl
def I3:aN :=
 (.block 1 (oQ [oM 19 2,oM 20 1,oW 21 (.arith .sub (.t 19) (.t 20)),oM 10 21]
 (.seq (oQ [oM 22 10,oW 23 (.arith .leq (.t 22) (oI 12))]
 (.cond (.t 23) (oQ [oM 24 0,oM 25 1,oM 26 2,oW 27 (.call (oF 201) [.t 24,.t 25,.t 26])]
 .ret) .skip))
 (.seq (oQ [oM 28 3,oW 29 (.arith .eql (.t 28) (oI 0))]
 (.cond (.t 29) (oQ [oM 30 0,oM 31 1,oM 32 2,oW 33 (.call (oF 202) [.t 30,.t 31,.t 32])]
 .ret) .skip))
 (.seq (oQ [oM 34 8,oW 35 (.un .not (.t 34))]
 (.cond (.t 35) (oQ [oM 36 0,oM 37 1,oM 38 2,oW 39 (.call (oF 203) [.t 36,.t 37,.t 38])]
 (.region [oM 40 3,oW 41 (.arith .sub (.t 40) (oI 1)),oM 3 41])) .skip))
 (oQ [oM 43 0,oM 44 1,oM 45 2,oW 46 (.call (oF 204) [.t 43,.t 44,.t 45]),oM 42 46,oX 47 42 0,oX 48 42 1,oM 11 47,oM 12 48]
 (.seq (oQ [oM 49 12,oW 50 (.arith .eql (.t 49) (oI 2))]
 (.cond (.t 50) (oQ [oM 51 0,oM 52 1,oM 53 2,oW 54 (.call (oF 205) [.t 51,.t 52,.t 53])]
 (oQ [oM 55 2,oW 56 (.arith .sub (.t 55) (oI 1)),oM 57 11,oM 58 1,oW 59 (.arith .sub (.t 57) (.t 58)),oW 60 (.arith .sub (.t 56) (.t 59)),oM 11 60]
 (.region [oW 12 (.move (oI 1))]))) .skip))
 (.seq (oQ [oM 61 8,oM 62 61,gM 63 9 62 true,oW 64 (.pick (.t 62) (.t 63) (oB false)),oM 65 64,gM 66 12 65 true,gW 67 (.arith .eql (.t 66) (oI 1)) 65 true,oW 68 (.pick (.t 65) (.t 67) (oB false))]
 (.cond (.t 68) (oQ [oM 69 0,oM 70 1,oM 71 2,oW 72 (.call (oF 206) [.t 69,.t 70,.t 71])]
 (.cond (.t 72) .ret .skip)) .skip))
 (.seq (.seq (.draw [oRM 73 1,oR 74 (.arith .gtr (.t 73) (oI 0)),oRM 75 74,rM 76 0 75 true,rM 77 1 75 true,rW 78 (.arith .sub (.t 77) (oI 1)) 75 true,rW 79 (.indexAddr 1 (.t 76) (.t 78)) 75 true,rD 80 79 75 true,rM 81 0 75 true,rM 82 11 75 true,rW 83 (.indexAddr 1 (.t 81) (.t 82)) 75 true,rD 84 83 75 true,gW 85 (.call (oF 207) [.t 80,.t 84]) 75 true,⟨(some 86),.un .not (.t 85),(some (75,true)),.read,1,false⟩,nK 87 (.pick (.t 75) (.t 86) (oB false)) .read 1])
 (.cond (.t 87) (oQ [oM 88 0,oM 89 1,oM 90 2,oM 91 11,oW 92 (.call (oF 208) [.t 88,.t 89,.t 90,.t 91]),oM 13 92]
 (oQ [oM 93 13,oM 1 93]
 (.exit 1))) .skip))
 (oQ [oM 95 0,oM 96 1,oM 97 2,oM 98 11,oW 99 (.call (oF 209) [.t 95,.t 96,.t 97,.t 98]),oM 94 99,oX 100 94 0,oX 101 94 1,oM 14 100,oM 15 101]
 (oQ [oM 102 15,oM 9 102]
 (oQ [oM 103 14,oM 104 1,oW 105 (.arith .sub (.t 103) (.t 104)),oM 106 2,oM 107 14,oW 108 (.arith .sub (.t 106) (.t 107)),oM 16 105,oM 17 108]
 (oQ [oM 109 10,oW 110 (.arith .quo (.t 109) (oI 8)),oM 18 110]
 (oQ [oM 111 16,oM 112 17,oW 113 (.arith .lss (.t 111) (.t 112))]
 (.cond (.t 113) (oQ [oM 114 16,oM 115 18,oW 116 (.arith .geq (.t 114) (.t 115)),oM 8 116]
 (oQ [oM 117 0,oM 118 1,oM 119 14,oM 120 3,oW 121 (.call (oF 164) [.t 117,.t 118,.t 119,.t 120])]
 (.region [oM 122 14,oW 123 (.arith .add (.t 122) (oI 1)),oM 1 123]))) (oQ [oM 124 17,oM 125 18,oW 126 (.arith .geq (.t 124) (.t 125)),oM 8 126]
 (oQ [oM 127 0,oM 128 14,oW 129 (.arith .add (.t 128) (oI 1)),oM 130 2,oM 131 3,oW 132 (.call (oF 164) [.t 127,.t 129,.t 130,.t 131])]
 (.region [oM 133 14,oM 2 133]))))))))))))))))))
def I4:aQ:={ntmps:=134,results:=[],mode:=.full,body :=
 (oQ [oW 8 (.move (oB true))]
 (oQ [oW 9 (.move (oB true))]
 (.block 0 (.loop I3))))}
theorem c164:aE Tryz.prog Tryz.f164 .full=some I4:=by kernel_rfl
def KL:aQ:={ntmps:=8,results:=[.t 2],mode:=.pure,body :=
 (oQ [oW 2 (.move (oI 0))]
 (.seq (.cond (oB false) (oQ [oM 3 0,oW 4 (.conv .u32 (.t 3)),oW 5 (.call (oF 210) [.t 4]),oM 2 5]
 .ret) .skip)
 (oQ [oM 6 0,oW 7 (.call (oF 211) [.t 6]),oM 2 7]
 .ret)))}
theorem c165:aE Tryz.prog Tryz.f165 .pure=some KL:=by kernel_rfl
def Qo:aN :=
 (oQ [oW 7 (.arith .lss (.t 6) (.t 5))]
 (.seq (.cond (.t 7) .skip (.exit 0))
 (.seq (.block 1 (oQ [oM 8 6,oM 3 8]
 (oQ [oM 9 0,oM 10 3,oW 11 (.indexStr (.t 9) (.t 10)),oW 12 (.arith .lss (.t 11) (.c (.int .u8 97))),oM 13 12,gM 14 0 13 false,gM 15 3 13 false,gW 16 (.indexStr (.t 14) (.t 15)) 13 false,gW 17 (.arith .gtr (.t 16) (.c (.int .u8 122))) 13 false,oW 18 (.pick (.t 13) (oB true) (.t 17))]
 (.cond (.t 18) (oQ [oW 2 (.move (oB false))]
 .ret) .skip))))
 (.region [oW 19 (.arith .add (.t 6) (oI 1)),oM 6 19]))))
def Qp:aN :=
 (oQ [oM 20 0,oW 21 (.arith .neq (.t 20) (.c (.str []))),oM 22 21,gM 23 0 22 true,gW 24 (.len 0 (.t 23)) 22 true,gW 25 (.arith .leq (.t 24) (oI 12)) 22 true,oW 26 (.pick (.t 22) (.t 25) (oB false)),oM 2 26]
 .ret)
def DC:aQ:={ntmps:=27,results:=[.t 2],mode:=.pure,body :=
 (oQ [oW 2 (.move (oB false))]
 (.seq (oQ [oM 4 0,oW 5 (.len 0 (.t 4)),oW 6 (.move (oI 0))]
 (.block 0 (.loop Qo)))
 Qp))}
theorem c166:aE Tryz.prog Tryz.f166 .pure=some DC:=by kernel_rfl
def t167:aQ:={ntmps:=17,results:=[.t 2],mode:=.pure,body :=
 (oQ [oW 1 (.box 106 3 (.t 0)),oW 2 (.move (oB false))]
 (.seq (oQ [oA 3 0 1,oD 4 3]
 (.cond (.t 4) (oQ [oA 5 1 1,oD 6 5,oW 7 (.arith .eql (.t 6) (oI 0)),oM 8 7,gA 9 2 1 8 true,gD 10 9 8 true,gW 11 (.len 0 (.t 10)) 8 true,gW 12 (.arith .leq (.t 11) (oI 12)) 8 true,oW 13 (.pick (.t 8) (.t 12) (oB false)),oM 2 13]
 .ret) .skip))
 (oQ [oA 14 2 1,oD 15 14,oW 16 (.arith .eql (.t 15) (.c (.str []))),oM 2 16]
 .ret)))}
theorem c167:aE Tryz.prog Tryz.f167 .pure=some t167:=by kernel_rfl
def YO:aN :=
 (.seq (oQ [oM 13 6,oW 14 (.arith .geq (.t 13) (oI 0))]
 (.cond (.t 14) .skip (.exit 2)))
 (.seq (.block 3 (.region [oM 17 3,oM 18 5,oM 19 6,oW 20 (.arith .mul (oI 8) (.t 19)),oW 21 (.arith .shr (.t 18) (.t 20)),oW 22 (.conv .u8 (.t 21)),oW 23 (.buildSlice 5 1 (.int .u8 0) 1 [(0,.t 22)]),oW 24 (.append 5 1 1 (.t 17) (.t 23)),oM 3 24]))
 (.region [oM 15 6,oW 16 (.arith .sub (.t 15) (oI 1)),oM 6 16])))
def YQ:aN :=
 (.region [oW 25 (.arith .add (.t 9) (oI 1)),oM 9 25])
def YN:aN :=
 (oQ [oW 10 (.arith .lss (.t 9) (.t 8))]
 (.seq (.cond (.t 10) .skip (.exit 0))
 (.seq (.block 1 (oQ [oW 11 (.indexAddr 1 (.t 7) (.t 9)),oD 12 11,oM 5 12]
 (oQ [oW 6 (.move (oI 7))]
 (.block 2 (.loop YO)))))
 YQ)))
def YP:aN :=
 (oQ [oM 26 3,oM 2 26]
 .ret)
def t168:aQ:={ntmps:=27,results:=[.t 2],mode:=.full,body :=
 (oQ [oW 2 (.move (.c .nsl))]
 (oQ [oW 3 (.move (.c .nsl))]
 (.seq (oQ [oM 7 0,oW 8 (.len 1 (.t 7)),oW 9 (.move (oI 0))]
 (.block 0 (.loop YN)))
 YP)))}
theorem c168:aE Tryz.prog Tryz.f168 .full=some t168:=by kernel_rfl
def Qn:aQ:={ntmps:=48,results:=[.t 4],mode:=.pure,body :=
 (oQ [oW 2 (.box 96 5 (.t 0)),oW 3 (.box 106 3 (.t 1)),oW 4 (.move (oB false))]
 (.seq (oQ [oA 5 1 2,oD 6 5]
 (.block 0 (oQ [oW 8 (.arith .eql (.t 6) (oI 1)),oM 7 8]
 (.cond (.t 7) (oQ [oA 9 0 3,oD 10 9,oW 11 (.un .not (.t 10)),oM 12 11,gA 13 1 3 12 true,gD 14 13 12 true,gA 15 2 2 12 true,gD 16 15 12 true,gW 17 (.arith .geq (.t 14) (.t 16)) 12 true,oW 18 (.pick (.t 12) (.t 17) (oB false)),oM 19 18,gA 20 1 3 19 true,gD 21 20 19 true,gA 22 3 2 19 true,gD 23 22 19 true,gW 24 (.arith .leq (.t 21) (.t 23)) 19 true,oW 25 (.pick (.t 19) (.t 24) (oB false)),oM 4 25]
 .ret) (oQ [oW 27 (.arith .eql (.t 6) (oI 2)),oM 26 27]
 (.cond (.t 26) (oQ [oA 28 0 3,oD 29 28,oM 30 29,gA 31 2 3 30 true,gD 32 31 30 true,gA 33 4 2 30 true,gD 34 33 30 true,gW 35 (.arith .eql (.t 32) (.t 34)) 30 true,oW 36 (.pick (.t 30) (.t 35) (oB false)),oM 4 36]
 .ret) (oQ [oW 38 (.arith .eql (.t 6) (oI 3)),oM 37 38]
 (.cond (.t 37) (oQ [oA 39 0 3,oD 40 39,oM 41 40,gA 42 2 3 41 true,gD 43 42 41 true,gA 44 4 2 41 true,gD 45 44 41 true,gW 46 (.call (oF 212) [.t 43,.t 45]) 41 true,oW 47 (.pick (.t 41) (.t 46) (oB false)),oM 4 47]
 .ret) .skip))))))))
 (oQ [oW 4 (.move (oB false))]
 .ret)))}
theorem c173:aE Tryz.prog Tryz.f173 .pure=some Qn:=by kernel_rfl
def t174:aQ:={ntmps:=38,results:=[.t 4],mode:=.full,body :=
 (oQ [oW 4 (.move (.c .nsl))]
 (.seq (oQ [oM 6 0,oW 7 (.nilCheck (.t 6)),oA 8 1 7,oD 9 8,oM 10 9,gM 11 1 10 false,gM 12 0 10 false,gW 13 (.nilCheck (.t 12)) 10 false,gA 14 0 13 10 false,gD 15 14 10 false,gW 16 (.len 1 (.t 15)) 10 false,gW 17 (.arith .gtr (.t 11) (.t 16)) 10 false,oW 18 (.pick (.t 10) (oB true) (.t 17))]
 (.cond (.t 18) (oQ [oM 19 0,oW 20 (.nilCheck (.t 19)),oA 21 1 20,oZ (.store 1 (.t 21) (oB true))]
 (oQ [oW 4 (.move (.c .nsl))]
 .ret)) .skip))
 (oQ [oM 22 0,oW 23 (.nilCheck (.t 22)),oA 24 0 23,oD 25 24,oM 26 1,oW 27 (.sliceSl 1 (.t 25) none (some (.t 26))),oM 5 27]
 (oQ [oM 28 0,oM 29 0,oW 30 (.nilCheck (.t 29)),oA 31 0 30,oD 32 31,oM 33 1,oW 34 (.sliceSl 1 (.t 32) (some (.t 33)) none),oW 35 (.nilCheck (.t 28)),oA 36 0 35,oS 1 36 34]
 (oQ [oM 37 5,oM 4 37]
 .ret)))))}
theorem c174:aE Tryz.prog Tryz.f174 .full=some t174:=by kernel_rfl
def YL:aN :=
 (oQ [oW 10 (.arith .lss (.t 9) (.t 8))]
 (.seq (.cond (.t 10) .skip (.exit 0))
 (.seq (.block 1 (oQ [oW 11 (.indexAddr 1 (.t 7) (.t 9)),oD 12 11,oM 5 12]
 (.region [oM 13 3,oW 14 (.arith .shl (.t 13) (.c (.int .u64 8))),oM 15 5,oW 16 (.conv .u64 (.t 15)),oW 17 (.arith .or (.t 14) (.t 16)),oM 3 17])))
 (.region [oW 18 (.arith .add (.t 9) (oI 1)),oM 9 18]))))
def YM:aN :=
 (oQ [oM 19 3,oW 20 (.conv .i64 (.t 19)),oM 2 20]
 .ret)
def t175:aQ:={ntmps:=21,results:=[.t 2],mode:=.full,body :=
 (oQ [oW 2 (.move (oI 0))]
 (oQ [oW 3 (.move (.c (.int .u64 0)))]
 (.seq (oQ [oM 6 0,oW 7 (.call (oF 174) [.t 6,oI 8]),oW 8 (.len 1 (.t 7)),oW 9 (.move (oI 0))]
 (.block 0 (.loop YL)))
 YM)))}
theorem c175:aE Tryz.prog Tryz.f175 .full=some t175:=by kernel_rfl
def t176:aQ:={ntmps:=9,results:=[.t 2],mode:=.full,body :=
 (oQ [oW 2 (.move (.c (.str [])))]
 (oQ [oM 3 0,oM 4 0,oW 5 (.call (oF 129) [.t 4]),oW 6 (.conv .i64 (.t 5)),oW 7 (.call (oF 174) [.t 3,.t 6]),oW 8 (.extract (.c .nilp) 0),oM 2 8]
 .ret))}
theorem c176:aE Tryz.prog Tryz.f176 .full=some t176:=by kernel_rfl
def DB:aQ:={ntmps:=6,results:=[.t 2],mode:=.pure,body :=
 (oQ [oW 2 (.move (oB false))]
 (oQ [oM 3 0,oM 4 0,oW 5 (.arith .neq (.t 3) (.t 4)),oM 2 5]
 .ret))}
theorem c177:aE Tryz.prog Tryz.f177 .pure=some DB:=by kernel_rfl
def I2:aN :=
 (.seq (oQ [oM 15 9,oM 16 10,oW 17 (.arith .lss (.t 15) (.t 16))]
 (.cond (.t 17) .skip (.exit 0)))
 (.block 1 (oQ [oM 18 9,oM 19 10,oW 20 (.arith .add (.t 18) (.t 19)),oW 21 (.conv .u64 (.t 20)),oW 22 (.arith .shr (.t 21) (.c (.int .u64 1))),oW 23 (.conv .i64 (.t 22)),oM 11 23]
 (.seq (.draw [oRM 25 0,oRM 26 11,oR 27 (.indexAddr 2 (.t 25) (.t 26)),oRL 28 2 27,oRL 29 2 4,oRM 24 2,oW 30 (.call (.t 24) [.t 28,.t 29]),nK 31 (.arith .lss (.t 30) (oI 0)) .read 1])
 (.cond (.t 31) (.region [oM 32 11,oW 33 (.arith .add (.t 32) (oI 1)),oM 9 33]) (.region [oM 34 11,oM 10 34]))))))
def Qm:aN :=
 (.seq (.draw [oRM 36 9,oRM 37 8,oR 38 (.arith .lss (.t 36) (.t 37)),oRM 39 38,rM 41 0 39 true,rM 42 9 39 true,rW 43 (.indexAddr 2 (.t 41) (.t 42)) 39 true,rL 44 2 43 39 true,rL 45 2 4 39 true,rM 40 2 39 true,gW 46 (.call (.t 40) [.t 44,.t 45]) 39 true,oRM 35 9,⟨(some 47),.arith .eql (.t 46) (oI 0),(some (39,true)),.read,1,false⟩,nK 48 (.pick (.t 39) (.t 47) (oB false)) .read 1,nK 6 (.move (.t 35)) .read 1,nK 7 (.move (.t 48)) .read 1])
 .ret)
def DA:aQ:={ntmps:=49,results:=[.t 6,.t 7],mode:=.pure,body :=
 (oQ [oW 4 (.box 40 2 (.t 1)),oW 6 (.move (oI 0)),oW 7 (.move (oB false))]
 (oQ [oM 12 0,oW 13 (.len 1 (.t 12)),oM 8 13]
 (oQ [oM 14 8,oW 9 (.move (oI 0)),oM 10 14]
 (.seq (.block 0 (.loop I2))
 Qm))))}
theorem c178:aE Tryz.prog Tryz.f178 .pure=some DA:=by kernel_rfl
def H9:aN :=
 (.seq (oQ [oM 15 9,oM 16 10,oW 17 (.arith .lss (.t 15) (.t 16))]
 (.cond (.t 17) .skip (.exit 0)))
 (.block 1 (oQ [oM 18 9,oM 19 10,oW 20 (.arith .add (.t 18) (.t 19)),oW 21 (.conv .u64 (.t 20)),oW 22 (.arith .shr (.t 21) (.c (.int .u64 1))),oW 23 (.conv .i64 (.t 22)),oM 11 23]
 (.seq (.draw [oRM 25 0,oRM 26 11,oR 27 (.indexAddr 4 (.t 25) (.t 26)),oRL 28 4 27,oRL 29 2 4,oRM 24 2,oW 30 (.call (.t 24) [.t 28,.t 29]),nK 31 (.arith .lss (.t 30) (oI 0)) .read 1])
 (.cond (.t 31) (.region [oM 32 11,oW 33 (.arith .add (.t 32) (oI 1)),oM 9 33]) (.region [oM 34 11,oM 10 34]))))))
def Ql:aN :=
 (.seq (.draw [oRM 36 9,oRM 37 8,oR 38 (.arith .lss (.t 36) (.t 37)),oRM 39 38,rM 41 0 39 true,rM 42 9 39 true,rW 43 (.indexAddr 4 (.t 41) (.t 42)) 39 true,rL 44 4 43 39 true,rL 45 2 4 39 true,rM 40 2 39 true,gW 46 (.call (.t 40) [.t 44,.t 45]) 39 true,oRM 35 9,⟨(some 47),.arith .eql (.t 46) (oI 0),(some (39,true)),.read,1,false⟩,nK 48 (.pick (.t 39) (.t 47) (oB false)) .read 1,nK 6 (.move (.t 35)) .read 1,nK 7 (.move (.t 48)) .read 1])
 .ret)
def CZ:aQ:={ntmps:=49,results:=[.t 6,.t 7],mode:=.pure,body :=
 (oQ [oW 4 (.box 40 2 (.t 1)),oW 6 (.move (oI 0)),oW 7 (.move (oB false))]
 (oQ [oM 12 0,oW 13 (.len 1 (.t 12)),oM 8 13]
 (oQ [oM 14 8,oW 9 (.move (oI 0)),oM 10 14]
 (.seq (.block 0 (.loop H9))
 Ql))))}
theorem c180:aE Tryz.prog Tryz.f180 .pure=some CZ:=by kernel_rfl
def CY:aQ:={ntmps:=9,results:=[.t 4],mode:=.pure,body :=
 (oQ [oW 2 (.box 93 4 (.t 0)),oW 3 (.box 40 2 (.t 1)),oW 4 (.move (oI 0))]
 (oQ [oA 5 0 2,oL 6 2 5,oL 7 2 3,oW 8 (.call (oF 78) [.t 6,.t 7]),oM 4 8]
 .ret))}
theorem c181:aE Tryz.prog Tryz.f181 .pure=some CY:=by kernel_rfl
def Gy:aQ:={ntmps:=45,results:=[.t 4],mode:=.pure,body :=
 (oQ [oW 2 (.box 96 5 (.t 0)),oW 3 (.box 96 5 (.t 1)),oW 4 (.move (oB false))]
 (.seq (oQ [oA 5 1 3,oD 6 5]
 (.block 0 (oQ [oW 8 (.arith .eql (.t 6) (oI 1)),oM 7 8]
 (.cond (.t 7) (oQ [oA 9 1 2,oD 10 9,oW 11 (.arith .eql (.t 10) (oI 1)),oM 12 11,gA 13 2 2 12 true,gD 14 13 12 true,gA 15 2 3 12 true,gD 16 15 12 true,gW 17 (.arith .leq (.t 14) (.t 16)) 12 true,oW 18 (.pick (.t 12) (.t 17) (oB false)),oM 19 18,gA 20 3 3 19 true,gD 21 20 19 true,gA 22 3 2 19 true,gD 23 22 19 true,gW 24 (.arith .leq (.t 21) (.t 23)) 19 true,oW 25 (.pick (.t 19) (.t 24) (oB false)),oM 4 25]
 .ret) (oQ [oW 27 (.arith .eql (.t 6) (oI 3)),oM 26 27]
 (.cond (.t 26) (oQ [oA 28 1 2,oD 29 28,oW 30 (.arith .eql (.t 29) (oI 3)),oM 31 30,gA 32 4 3 31 true,gD 33 32 31 true,gA 34 4 2 31 true,gD 35 34 31 true,gW 36 (.call (oF 213) [.t 33,.t 35]) 31 true,oW 37 (.pick (.t 31) (.t 36) (oB false)),oM 4 37]
 .ret) (oQ [oW 39 (.arith .eql (.t 6) (oI 2)),oM 38 39]
 (.cond (.t 38) (.seq (.draw [oRL 40 5 2,oRA 41 4 3,oRD 42 41,nK 43 (.call (oF 214) [.t 42]) .create 0,nK 44 (.call (oF 200) [.t 40,.t 43]) .write 1,nK 4 (.move (.t 44)) .read 2])
 .ret) .skip))))))))
 (oQ [oW 4 (.move (oB false))]
 .ret)))}
theorem c182:aE Tryz.prog Tryz.f182 .pure=some Gy:=by kernel_rfl
def zC:aQ:={ntmps:=83,results:=[(.cell 4 (some 5)),.t 5],mode:=.pure,body :=
 (oQ [oW 2 (.box 96 5 (.t 0)),oW 3 (.box 96 5 (.t 1)),oW 4 (.alloc 96 5 (.agg [.str [],.int .i64 0,.int .i64 0,.int .i64 0,.str []])),oW 5 (.move (oB false))]
 (.seq (.block 0 (oQ [oA 7 1 2,oD 8 7,oW 9 (.arith .eql (.t 8) (oI 1)),oM 10 9,gA 11 1 3 10 true,gD 12 11 10 true,gW 13 (.arith .eql (.t 12) (oI 1)) 10 true,oW 14 (.pick (.t 10) (.t 13) (oB false)),oM 6 14]
 (.cond (.t 6) (.seq (.draw [oRA 15 2 2,⟨(some 16),.load none (.t 15),none,.read,0,true⟩,oRA 17 2 3,⟨(some 18),.load none (.t 17),none,.read,0,true⟩,oRA 20 3 2,⟨(some 21),.load none (.t 20),none,.read,0,true⟩,oRA 22 3 3,oRD 23 22,oR 19 (.minmax true (.t 16) (.t 18)),oRA 25 2 2,⟨none,.store 1 (.t 25) (.t 19),none,.create,0,false⟩,oR 24 (.minmax false (.t 21) (.t 23)),nK 26 (.fieldAddr 3 (.t 2)) .read 1,⟨none,.store 1 (.t 26) (.t 24),none,.write,1,false⟩])
 (.seq (.draw [⟨(some 27),.load (some 5) (.t 2),none,.read,0,true⟩,oRA 28 2 2,oRD 29 28,oRA 30 3 2,oRD 31 30,⟨none,.store 5 (.t 4) (.t 27),none,.create,0,false⟩,oR 32 (.arith .leq (.t 29) (.t 31)),nK 5 (.move (.t 32)) .read 1])
 .ret)) (oQ [oA 34 1 2,oD 35 34,oW 36 (.arith .eql (.t 35) (oI 1)),oM 37 36,gA 38 1 3 37 false,gD 39 38 37 false,gW 40 (.arith .eql (.t 39) (oI 1)) 37 false,oW 41 (.pick (.t 37) (oB true) (.t 40)),oM 33 41]
 (.cond (.t 33) (oQ [oL 42 5 2,oS 5 4 42,oW 5 (.move (oB false))]
 .ret) (oQ [oA 44 1 2,oD 45 44,oW 46 (.arith .eql (.t 45) (oI 2)),oM 43 46]
 (.cond (.t 43) (.seq (.draw [oRL 47 5 2,oRL 48 5 3,oRA 49 4 2,oRD 50 49,oR 51 (.build [.bool false,.int .i64 0,.str []] [(0,1,oB true),(2,1,.t 50)]),nK 52 (.call (oF 173) [.t 48,.t 51]) .create 0,⟨none,.store 5 (.t 4) (.t 47),none,.write,1,false⟩,nK 5 (.move (.t 52)) .read 2])
 .ret) (oQ [oA 54 1 3,oD 55 54,oW 56 (.arith .eql (.t 55) (oI 2)),oM 53 56]
 (.cond (.t 53) (.seq (.draw [oRL 57 5 3,oRL 58 5 2,oRA 59 4 3,oRD 60 59,oR 61 (.build [.bool false,.int .i64 0,.str []] [(0,1,oB true),(2,1,.t 60)]),nK 62 (.call (oF 173) [.t 58,.t 61]) .create 0,⟨none,.store 5 (.t 4) (.t 57),none,.write,1,false⟩,nK 5 (.move (.t 62)) .read 2])
 .ret) (oQ [oA 64 4 2,oD 65 64,oW 66 (.len 0 (.t 65)),oA 67 4 3,oD 68 67,oW 69 (.len 0 (.t 68)),oW 70 (.arith .geq (.t 66) (.t 69)),oM 63 70]
 (.cond (.t 63) (.seq (.draw [oRL 71 5 2,oRA 72 4 2,oRD 73 72,oRA 74 4 3,oRD 75 74,nK 76 (.call (oF 212) [.t 73,.t 75]) .create 0,⟨none,.store 5 (.t 4) (.t 71),none,.write,1,false⟩,nK 5 (.move (.t 76)) .read 2])
 .ret) .skip)))))))))))
 (.seq (.draw [oRL 77 5 3,oRA 78 4 3,oRD 79 78,oRA 80 4 2,oRD 81 80,nK 82 (.call (oF 212) [.t 79,.t 81]) .create 0,⟨none,.store 5 (.t 4) (.t 77),none,.write,1,false⟩,nK 5 (.move (.t 82)) .read 2])
 .ret)))}
theorem c183:aE Tryz.prog Tryz.f183 .pure=some zC:=by kernel_rfl
def It:aN :=
 (oQ [oW 19 (.arith .lss (.t 18) (.t 17))]
 (.seq (.cond (.t 19) .skip (.exit 2))
 (.seq (.block 3 (oQ [oW 20 (.indexAddr 5 (.t 16) (.t 18)),oL 21 5 20,oW 9 (.alloc 96 5 (.agg [.str [],.int .i64 0,.int .i64 0,.int .i64 0,.str []])),oS 5 9 21]
 (.region [oM 22 7,oM 23 22,gA 24 0 9 23 false,gD 25 24 23 false,gA 26 0 6 23 false,gD 27 26 23 false,gW 28 (.arith .eql (.t 25) (.t 27)) 23 false,gM 29 28 23 false,gL 30 5 9 29 true,gL 31 5 6 29 true,gW 32 (.call (oF 215) [.t 30,.t 31]) 29 true,gW 33 (.pick (.t 29) (.t 32) (oB false)) 23 false,oW 34 (.pick (.t 23) (oB true) (.t 33)),oM 7 34])))
 (.region [oW 35 (.arith .add (.t 18) (oI 1)),oM 18 35]))))
def Af:aN :=
 (oQ [oM 36 7,oW 37 (.un .not (.t 36))]
 (.cond (.t 37) (oQ [oW 4 (.move (oB false))]
 .ret) .skip))
def H7:aN :=
 (.region [oW 38 (.arith .add (.t 12) (oI 1)),oM 12 38])
def Ir:aN :=
 (oQ [oW 13 (.arith .lss (.t 12) (.t 11))]
 (.seq (.cond (.t 13) .skip (.exit 0))
 (.seq (.block 1 (oQ [oW 14 (.indexAddr 5 (.t 10) (.t 12)),oL 15 5 14,oW 6 (.alloc 96 5 (.agg [.str [],.int .i64 0,.int .i64 0,.int .i64 0,.str []])),oS 5 6 15]
 (oQ [oW 7 (.move (oB false))]
 (.seq (oQ [oM 16 1,oW 17 (.len 1 (.t 16)),oW 18 (.move (oI 0))]
 (.block 2 (.loop It)))
 Af))))
 H7)))
def Qk:aN :=
 (oQ [oW 4 (.move (oB true))]
 .ret)
def H8:aQ:={ntmps:=39,results:=[.t 4],mode:=.pure,body :=
 (oQ [oW 4 (.move (oB false))]
 (.seq (oQ [oM 10 0,oW 11 (.len 1 (.t 10)),oW 12 (.move (oI 0))]
 (.block 0 (.loop Ir)))
 Qk))}
theorem c184:aE Tryz.prog Tryz.f184 .pure=some H8:=by kernel_rfl
def t189:aQ:={ntmps:=10,results:=[],mode:=.full,body :=
 (.region [oM 4 0,oM 5 0,oW 6 (.len 1 (.t 5)),oM 7 1,oW 8 (.arith .sub (.t 6) (.t 7)),oW 9 (.call (oF 216) [.t 4,.t 8])])}
theorem c189:aE Tryz.prog Tryz.f189 .full=some t189:=by kernel_rfl
def t191:aQ:={ntmps:=10,results:=[],mode:=.full,body :=
 (.region [oM 4 0,oM 5 0,oW 6 (.len 1 (.t 5)),oM 7 1,oW 8 (.arith .sub (.t 6) (.t 7)),oW 9 (.call (oF 217) [.t 4,.t 8])])}
theorem c191:aE Tryz.prog Tryz.f191 .full=some t191:=by kernel_rfl
def Qi:aN :=
 (oQ [oW 16 (.arith .lss (.t 15) (.t 14))]
 (.seq (.cond (.t 16) .skip (.exit 0))
 (.seq (.block 1 (oQ [oM 17 15,oW 18 (.indexAddr 5 (.t 13) (.t 15)),oL 19 5 18,oW 5 (.alloc 96 5 (.agg [.str [],.int .i64 0,.int .i64 0,.int .i64 0,.str []])),oM 4 17,oS 5 5 19]
 (oQ [oL 20 5 5,oW 21 (.call (oF 138) [.t 20]),oW 22 (.un .not (.t 21))]
 (.cond (.t 22) (oQ [oM 23 4,oW 24 (.makeIface 65 (oI 1)),oW 25 (.call (oF 55) [(.c (.str [112,114,101,100])),.t 23,.t 24]),oW 2 (.move (.c .nsl)),oM 3 25]
 .ret) .skip))))
 (.region [oW 26 (.arith .add (.t 15) (oI 1)),oM 15 26]))))
def Qh:aN :=
 (oQ [oW 30 (.arith .lss (.t 29) (.t 28))]
 (.seq (.cond (.t 30) .skip (.exit 2))
 (.seq (.block 3 (oQ [oM 31 29,oW 32 (.indexAddr 5 (.t 27) (.t 29)),oL 33 5 32,oW 8 (.alloc 96 5 (.agg [.str [],.int .i64 0,.int .i64 0,.int .i64 0,.str []])),oM 7 31,oS 5 8 33]
 (oQ [oM 35 6,oA 36 0 8,oD 37 36,oW 38 (.call (oF 218) [.t 35,.t 37,oF 219]),oM 34 38,oX 39 34 0,oX 40 34 1,oM 9 39,oM 10 40]
 (.block 4 (oQ [oM 47 10,oM 46 47]
 (.cond (.t 46) (.seq (.draw [oRM 49 6,oRM 50 9,oR 51 (.indexAddr 5 (.t 49) (.t 50)),oRL 52 5 51,oRL 53 5 8,oW 54 (.call (oF 221) [.t 52,.t 53]),nK 48 (.move (.t 54)) .read 1,nK 55 (.extract (.t 48) 0) .read 1,nK 11 (.alloc 96 5 (.agg [.str [],.int .i64 0,.int .i64 0,.int .i64 0,.str []])) .create 0,⟨none,.store 5 (.t 11) (.t 55),none,.write,2,false⟩,nK 56 (.extract (.t 48) 1) .read 1,nK 12 (.move (.t 56)) .read 3])
 (.seq (oQ [oM 57 12,oW 58 (.un .not (.t 57))]
 (.cond (.t 58) (oQ [oM 59 7,oW 60 (.makeIface 65 (oI 5)),oW 61 (.call (oF 55) [(.c (.str [112,114,101,100])),.t 59,.t 60]),oW 2 (.move (.c .nsl)),oM 3 61]
 .ret) .skip))
 (.region [oM 62 6,oM 63 9,oL 64 5 11,oW 65 (.indexAddr 5 (.t 62) (.t 63)),oS 5 65 64]))) (oQ [oM 67 6,oW 68 (.len 1 (.t 67)),oW 69 (.arith .eql (.t 68) (oI 5)),oM 66 69]
 (.cond (.t 66) (oQ [oM 70 7,oW 71 (.makeIface 65 (oI 7)),oW 72 (.call (oF 55) [(.c (.str [112,114,101,100])),.t 70,.t 71]),oW 2 (.move (.c .nsl)),oM 3 72]
 .ret) (.region [oM 41 6,oM 42 9,oL 43 5 8,oW 44 (.buildSlice 96 5 (.agg [.str [],.int .i64 0,.int .i64 0,.int .i64 0,.str []]) 1 [(0,.t 43)]),oW 45 (.call (oF 222) [.t 41,.t 42,.t 44]),oM 6 45])))))))))
 (.region [oW 73 (.arith .add (.t 29) (oI 1)),oM 29 73]))))
def H6:aN :=
 (oQ [oM 74 6,oM 2 74,oW 3 (.move (.c .nili))]
 .ret)
def Qj:aN :=
 (oQ [oW 6 (.move (.c .nsl))]
 (.seq (oQ [oM 27 0,oW 28 (.len 1 (.t 27)),oW 29 (.move (oI 0))]
 (.block 2 (.loop Qh)))
 H6))
def CX:aQ:={ntmps:=75,results:=[.t 2,.t 3],mode:=.pure,body :=
 (oQ [oW 2 (.move (.c .nsl)),oW 3 (.move (.c .nili))]
 (.seq (oQ [oM 13 0,oW 14 (.len 1 (.t 13)),oW 15 (.move (oI 0))]
 (.block 0 (.loop Qi)))
 Qj))}
theorem c192:aE Tryz.prog Tryz.f192 .pure=some CX:=by kernel_rfl
def Qg:aN :=
 (oQ [oW 10 (.arith .lss (.t 9) (.t 8))]
 (.seq (.cond (.t 10) .skip (.exit 0))
 (.seq (.block 1 (oQ [oW 11 (.indexAddr 5 (.t 7) (.t 9)),oL 12 5 11,oW 5 (.alloc 96 5 (.agg [.str [],.int .i64 0,.int .i64 0,.int .i64 0,.str []])),oS 5 5 12]
 (oQ [oA 13 4 5,oD 14 13,oW 15 (.call (oF 214) [.t 14]),oW 6 (.alloc 106 3 (.agg [.bool false,.int .i64 0,.str []])),oS 3 6 15]
 (.seq (oQ [oA 16 1 5,oD 17 16,oW 18 (.arith .eql (.t 17) (oI 1))]
 (.cond (.t 18) (.region [oA 19 2 5,oD 20 19,oW 21 (.call (oF 223) [.t 20]),oS 3 6 21]) .skip))
 (.region [oM 22 3,oA 23 0 5,oD 24 23,oL 25 3 6,oW 26 (.build [.str [],.bool false,.int .i64 0,.str []] [(0,1,.t 24),(1,3,.t 25)]),oW 27 (.buildSlice 108 4 (.agg [.str [],.bool false,.int .i64 0,.str []]) 1 [(0,.t 26)]),oW 28 (.append 108 4 48 (.t 22) (.t 27)),oM 3 28])))))
 (.region [oW 29 (.arith .add (.t 9) (oI 1)),oM 9 29]))))
def H5:aN :=
 (oQ [oM 30 3,oM 2 30]
 .ret)
def CW:aQ:={ntmps:=31,results:=[.t 2],mode:=.pure,body :=
 (oQ [oW 2 (.move (.c .nsl))]
 (oQ [oW 3 (.move (.c .nsl))]
 (.seq (oQ [oM 7 0,oW 8 (.len 1 (.t 7)),oW 9 (.move (oI 0))]
 (.block 0 (.loop Qg)))
 H5)))}
theorem c193:aE Tryz.prog Tryz.f193 .pure=some CW:=by kernel_rfl
end Go.Dm.Tc
