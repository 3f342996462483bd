/- A part of the proof. -/
import Derived.Test.YtfkbogedodngeaaGreatDoorTc0
import Derived.Test.YtfkbogedodngeaaGreatDoorMm4
import Derived.Test.YtfkbogedodngeaaGreatDoorRows
import Derived.KernelRfl
namespace Go.Dm.Tc
open Go.Proofs
def X1:aL:={ntmps:=12,results:=[.t 4,.t 5],mode:=.pure,body :=
 (oQ [oW 2 (.box 37 6 (.t 0)),oW 3 (.box 45 2 (.t 1)),oW 4 (.move (oI 0)),oW 5 (.move (oB false))]
 (oQ [oA 6 3 2,oD 7 6,oL 8 2 3,oW 9 (.call (oF 276) [.t 7,.t 8,oF 154]),oX 10 9 0,oX 11 9 1,oM 4 10,oM 5 11]
 .ret))}
theorem c220:aD Tryz.prog Tryz.f220 .pure=some X1:=by kernel_rfl
def Nk:aI :=
 (oQ [oW 9 (.arith .lss (.t 8) (.t 7))]
 (.seq (.cond (.t 9) .skip (.exit 0))
 (.seq (.block 1 (oQ [oM 10 8,oM 5 10]
 (oQ [oM 11 1,oM 12 0,oM 13 5,oW 14 (.indexAddr 7 (.t 12) (.t 13)),oL 15 7 14,oW 16 (.call (.t 11) [.t 15])]
 (.cond (.t 16) (oQ [oM 17 5,oM 4 17]
 .ret) .skip))))
 (.region [oW 18 (.arith .add (.t 8) (oI 1)),oM 8 18]))))
def Ye:aI :=
 (oQ [oW 4 (.move (oI (-1)))]
 .ret)
def W9:aL:={ntmps:=19,results:=[.t 4],mode:=.pure,body :=
 (oQ [oW 4 (.move (oI 0))]
 (.seq (oQ [oM 6 0,oW 7 (.len 1 (.t 6)),oW 8 (.move (oI 0))]
 (.block 0 (.loop Nk)))
 Ye))}
theorem c222:aD Tryz.prog Tryz.f222 .pure=some W9:=by kernel_rfl
def TV:aI :=
 (oQ [oW 12 (.arith .lss (.t 11) (.t 10))]
 (.seq (.cond (.t 12) .skip (.exit 0))
 (.seq (.block 1 (oQ [oW 13 (.indexAddr 7 (.t 9) (.t 11)),oL 14 7 13,oW 7 (.alloc 70 7 (.agg [.int .i64 0,.int .i64 0,.int .i64 0,.int .i64 0,.nsl,.int .i64 0,.bool false])),oS 7 7 14]
 (oQ [oA 15 0 7,oL 16 2 15,oL 17 2 3,oW 18 (.eqa false [1,1] (.t 16) (.t 17))]
 (.cond (.t 18) (.region [oM 19 5,oL 20 7 7,oW 21 (.buildSlice 70 7 (.agg [.int .i64 0,.int .i64 0,.int .i64 0,.int .i64 0,.nsl,.int .i64 0,.bool false]) 1 [(0,.t 20)]),oW 22 (.append 70 7 72 (.t 19) (.t 21)),oM 5 22]) .skip))))
 (.region [oW 23 (.arith .add (.t 11) (oI 1)),oM 11 23]))))
def TW:aI :=
 (oQ [oM 24 5,oM 4 24]
 .ret)
def b6:aL:={ntmps:=25,results:=[.t 4],mode:=.pure,body :=
 (oQ [oW 2 (.box 37 6 (.t 0)),oW 3 (.box 45 2 (.t 1)),oW 4 (.move (.c .nsl))]
 (oQ [oW 5 (.move (.c .nsl))]
 (.seq (oQ [oA 8 4 2,oD 9 8,oW 10 (.len 1 (.t 9)),oW 11 (.move (oI 0))]
 (.block 0 (.loop TV)))
 TW)))}
theorem c224:aD Tryz.prog Tryz.f224 .pure=some b6:=by kernel_rfl
def a9:aL:={ntmps:=12,results:=[.t 3],mode:=.pure,body :=
 (oQ [oW 2 (.box 70 7 (.t 0)),oW 3 (.move (oB false))]
 (oQ [oA 4 6 2,oD 5 4,oM 6 5,gA 7 4 2 6 true,gD 8 7 6 true,gD 9 1 6 true,gW 10 (.call (oF 226) [.t 8,.t 9]) 6 true,oW 11 (.pick (.t 6) (.t 10) (oB false)),oM 3 11]
 .ret))}
theorem c225:aD Tryz.prog Tryz.f225 .pure=some a9:=by kernel_rfl
def TS:aI :=
 (oQ [oW 16 (.arith .lss (.t 15) (.t 14))]
 (.seq (.cond (.t 16) .skip (.exit 0))
 (.seq (.block 1 (oQ [oW 17 (.indexAddr 5 (.t 13) (.t 15)),oL 18 5 17,oW 7 (.alloc 94 5 (.agg [.str [],.int .i64 0,.int .i64 0,.int .i64 0,.str []])),oS 5 7 18]
 (.region [oM 19 5,oA 20 0 7,oD 21 20,oL 22 5 7,oZ (.mapUpdate (.prim 2) (.t 19) (.t 21) (.t 22))])))
 (.region [oW 23 (.arith .add (.t 15) (oI 1)),oM 15 23]))))
def TR:aI :=
 (oQ [oW 27 (.arith .lss (.t 26) (.t 25))]
 (.seq (.cond (.t 27) .skip (.exit 2))
 (.seq (.block 3 (oQ [oW 28 (.indexAddr 5 (.t 24) (.t 26)),oL 29 5 28,oW 9 (.alloc 94 5 (.agg [.str [],.int .i64 0,.int .i64 0,.int .i64 0,.str []])),oS 5 9 29]
 (oQ [oM 31 5,oA 32 0 9,oD 33 32,oW 34 (.lookup (.prim 2) (.agg [.str [],.int .i64 0,.int .i64 0,.int .i64 0,.str []]) true (.t 31) (.t 33)),oM 30 34,oX 35 30 0,oX 36 30 1,oW 10 (.alloc 94 5 (.agg [.str [],.int .i64 0,.int .i64 0,.int .i64 0,.str []])),oS 5 10 35,oM 11 36]
 (oQ [oM 37 11,oW 38 (.un .not (.t 37)),oM 39 38,gL 40 5 9 39 false,gL 41 5 10 39 false,gW 42 (.call (oF 278) [.t 40,.t 41]) 39 false,gW 43 (.un .not (.t 42)) 39 false,oW 44 (.pick (.t 39) (oB true) (.t 43))]
 (.cond (.t 44) (oQ [oW 4 (.move (oB false))]
 .ret) .skip)))))
 (.region [oW 45 (.arith .add (.t 26) (oI 1)),oM 26 45]))))
def TU:aI :=
 (oQ [oW 4 (.move (oB true))]
 .ret)
def TT:aI :=
 (.seq (oQ [oM 24 0,oW 25 (.len 1 (.t 24)),oW 26 (.move (oI 0))]
 (.block 2 (.loop TR)))
 TU)
def a8:aL:={ntmps:=46,results:=[.t 4],mode:=.pure,body :=
 (oQ [oW 4 (.move (oB false))]
 (oQ [oW 12 (.makeMap),oM 5 12]
 (.seq (oQ [oM 13 1,oW 14 (.len 1 (.t 13)),oW 15 (.move (oI 0))]
 (.block 0 (.loop TS)))
 TT)))}
theorem c226:aD Tryz.prog Tryz.f226 .pure=some a8:=by kernel_rfl
def FG:aL:={ntmps:=24,results:=[(.cell 2 (some 6))],mode:=.full,body :=
 (oQ [oW 1 (.box 37 6 (.t 0)),oW 2 (.alloc 37 6 (.agg [.int .i64 0,.nsl,.nsl,.nsl,.nsl,.nsl]))]
 (.seq (.draw [oRA 3 1 1,oRD 4 3,nK 5 (.call (oF 88) [.t 4]) .create 0,oRA 6 2 1,oRD 7 6,nK 8 (.call (oF 89) [.t 7]) .create 0,oRA 9 3 1,oRD 10 9,nK 11 (.call (oF 90) [.t 10]) .create 0,oRA 12 4 1,oRD 13 12,nK 14 (.call (oF 91) [.t 13]) .create 0,oRA 15 5 1,oRD 16 15,nK 17 (.call (oF 92) [.t 16]) .write 4,nK 18 (.fieldAddr 1 (.t 1)) .read 1,⟨none,.store 1 (.t 18) (.t 5),none,.write,5,false⟩,nK 19 (.fieldAddr 2 (.t 1)) .read 6,⟨none,.store 1 (.t 19) (.t 8),none,.write,6,false⟩,nK 20 (.fieldAddr 3 (.t 1)) .read 7,⟨none,.store 1 (.t 20) (.t 11),none,.write,7,false⟩,nK 21 (.fieldAddr 4 (.t 1)) .read 8,⟨none,.store 1 (.t 21) (.t 14),none,.write,8,false⟩,nK 22 (.fieldAddr 5 (.t 1)) .read 9,⟨none,.store 1 (.t 22) (.t 17),none,.write,9,false⟩])
 (oQ [oL 23 6 1,oS 6 2 23]
 .ret)))}
theorem c233:aD Tryz.prog Tryz.f233 .full=some FG:=by kernel_rfl
def yJ:aL:={ntmps:=95,results:=[.t 6],mode:=.split,body :=
 (oQ [oW 6 (.move (.c .nsl))]
 (oQ [oM 10 0,oM 11 1,oW 12 (.sliceSl 4 (.t 10) (some (.t 11)) none)]
 (oQ [oM 13 2,oW 14 (.len 1 (.t 13)),oM 7 14]
 (.seq (oQ [oM 15 7,oW 16 (.arith .eql (.t 15) (oI 0))]
 (.cond (.t 16) (oQ [oM 17 0,oM 6 17]
 .ret) .skip))
 (oQ [oM 18 0,oW 19 (.len 1 (.t 18)),oM 8 19]
 (.seq (oQ [oM 20 1,oM 21 8,oW 22 (.arith .eql (.t 20) (.t 21))]
 (.cond (.t 22) (oQ [oM 23 0,oM 24 2,oW 25 (.append 68 4 48 (.t 23) (.t 24)),oM 6 25]
 .ret) .skip))
 (.seq (oQ [oM 26 8,oM 27 7,oW 28 (.arith .add (.t 26) (.t 27)),oM 29 0,oW 30 (.cap (.t 29)),oW 31 (.arith .gtr (.t 28) (.t 30))]
 (.cond (.t 31) (oQ [oM 32 0,oM 33 1,oW 34 (.sliceSl 4 (.t 32) none (some (.t 33))),oM 35 8,oM 36 7,oW 37 (.arith .add (.t 35) (.t 36)),oM 38 1,oW 39 (.arith .sub (.t 37) (.t 38)),oW 40 (.appendZ 68 4 48 (.agg [.int .i64 0,.int .i64 0,.nsl,.int .i64 0]) (.t 34) (.t 39)),oM 9 40]
 (oQ [oM 41 9,oM 42 1,oW 43 (.sliceSl 4 (.t 41) (some (.t 42)) none),oM 44 2,oW 45 (.copy 4 (.t 43) (.t 44))]
 (.seq (.draw [oRM 46 9,oRM 47 1,oRM 48 7,oR 49 (.arith .add (.t 47) (.t 48)),oR 50 (.sliceSl 4 (.t 46) (some (.t 49)) none),oRM 51 0,oRM 52 1,oR 53 (.sliceSl 4 (.t 51) (some (.t 52)) none),oW 54 (.copy 4 (.t 50) (.t 53))])
 (oQ [oM 55 9,oM 6 55]
 .ret)))) .skip))
 (oQ [oM 56 0,oM 57 8,oM 58 7,oW 59 (.arith .add (.t 57) (.t 58)),oW 60 (.sliceSl 4 (.t 56) none (some (.t 59))),oM 0 60]
 (.seq (oQ [oM 61 2,oM 62 0,oM 63 1,oM 64 7,oW 65 (.arith .add (.t 63) (.t 64)),oW 66 (.sliceSl 4 (.t 62) (some (.t 65)) none),oW 67 (.call (oF 288) [.t 61,.t 66]),oW 68 (.un .not (.t 67))]
 (.cond (.t 68) (.seq (.draw [oRM 69 0,oRM 70 1,oRM 71 7,oR 72 (.arith .add (.t 70) (.t 71)),oR 73 (.sliceSl 4 (.t 69) (some (.t 72)) none),oRM 74 0,oRM 75 1,oR 76 (.sliceSl 4 (.t 74) (some (.t 75)) none),oW 77 (.copy 4 (.t 73) (.t 76))])
 (oQ [oM 78 0,oM 79 1,oW 80 (.sliceSl 4 (.t 78) (some (.t 79)) none),oM 81 2,oW 82 (.copy 4 (.t 80) (.t 81))]
 (oQ [oM 83 0,oM 6 83]
 .ret))) .skip))
 (oQ [oM 84 0,oM 85 8,oW 86 (.sliceSl 4 (.t 84) (some (.t 85)) none),oM 87 2,oW 88 (.copy 4 (.t 86) (.t 87))]
 (oQ [oM 89 0,oM 90 1,oW 91 (.sliceSl 4 (.t 89) (some (.t 90)) none),oM 92 7,oW 93 (.call (oF 289) [.t 91,.t 92])]
 (oQ [oM 94 0,oM 6 94]
 .ret))))))))))))}
theorem c234:aD Tryz.prog Tryz.f234 .split=some yJ:=by kernel_rfl
def yH:aL:={ntmps:=95,results:=[.t 6],mode:=.split,body :=
 (oQ [oW 6 (.move (.c .nsl))]
 (oQ [oM 10 0,oM 11 1,oW 12 (.sliceSl 2 (.t 10) (some (.t 11)) none)]
 (oQ [oM 13 2,oW 14 (.len 1 (.t 13)),oM 7 14]
 (.seq (oQ [oM 15 7,oW 16 (.arith .eql (.t 15) (oI 0))]
 (.cond (.t 16) (oQ [oM 17 0,oM 6 17]
 .ret) .skip))
 (oQ [oM 18 0,oW 19 (.len 1 (.t 18)),oM 8 19]
 (.seq (oQ [oM 20 1,oM 21 8,oW 22 (.arith .eql (.t 20) (.t 21))]
 (.cond (.t 22) (oQ [oM 23 0,oM 24 2,oW 25 (.append 45 2 16 (.t 23) (.t 24)),oM 6 25]
 .ret) .skip))
 (.seq (oQ [oM 26 8,oM 27 7,oW 28 (.arith .add (.t 26) (.t 27)),oM 29 0,oW 30 (.cap (.t 29)),oW 31 (.arith .gtr (.t 28) (.t 30))]
 (.cond (.t 31) (oQ [oM 32 0,oM 33 1,oW 34 (.sliceSl 2 (.t 32) none (some (.t 33))),oM 35 8,oM 36 7,oW 37 (.arith .add (.t 35) (.t 36)),oM 38 1,oW 39 (.arith .sub (.t 37) (.t 38)),oW 40 (.appendZ 45 2 16 (.agg [.int .i64 0,.int .i64 0]) (.t 34) (.t 39)),oM 9 40]
 (oQ [oM 41 9,oM 42 1,oW 43 (.sliceSl 2 (.t 41) (some (.t 42)) none),oM 44 2,oW 45 (.copy 2 (.t 43) (.t 44))]
 (.seq (.draw [oRM 46 9,oRM 47 1,oRM 48 7,oR 49 (.arith .add (.t 47) (.t 48)),oR 50 (.sliceSl 2 (.t 46) (some (.t 49)) none),oRM 51 0,oRM 52 1,oR 53 (.sliceSl 2 (.t 51) (some (.t 52)) none),oW 54 (.copy 2 (.t 50) (.t 53))])
 (oQ [oM 55 9,oM 6 55]
 .ret)))) .skip))
 (oQ [oM 56 0,oM 57 8,oM 58 7,oW 59 (.arith .add (.t 57) (.t 58)),oW 60 (.sliceSl 2 (.t 56) none (some (.t 59))),oM 0 60]
 (.seq (oQ [oM 61 2,oM 62 0,oM 63 1,oM 64 7,oW 65 (.arith .add (.t 63) (.t 64)),oW 66 (.sliceSl 2 (.t 62) (some (.t 65)) none),oW 67 (.call (oF 290) [.t 61,.t 66]),oW 68 (.un .not (.t 67))]
 (.cond (.t 68) (.seq (.draw [oRM 69 0,oRM 70 1,oRM 71 7,oR 72 (.arith .add (.t 70) (.t 71)),oR 73 (.sliceSl 2 (.t 69) (some (.t 72)) none),oRM 74 0,oRM 75 1,oR 76 (.sliceSl 2 (.t 74) (some (.t 75)) none),oW 77 (.copy 2 (.t 73) (.t 76))])
 (oQ [oM 78 0,oM 79 1,oW 80 (.sliceSl 2 (.t 78) (some (.t 79)) none),oM 81 2,oW 82 (.copy 2 (.t 80) (.t 81))]
 (oQ [oM 83 0,oM 6 83]
 .ret))) .skip))
 (oQ [oM 84 0,oM 85 8,oW 86 (.sliceSl 2 (.t 84) (some (.t 85)) none),oM 87 2,oW 88 (.copy 2 (.t 86) (.t 87))]
 (oQ [oM 89 0,oM 90 1,oW 91 (.sliceSl 2 (.t 89) (some (.t 90)) none),oM 92 7,oW 93 (.call (oF 291) [.t 91,.t 92])]
 (oQ [oM 94 0,oM 6 94]
 .ret))))))))))))}
theorem c235:aD Tryz.prog Tryz.f235 .split=some yH:=by kernel_rfl
def a7:aL:={ntmps:=21,results:=[.t 4,.t 5],mode:=.pure,body :=
 (oQ [oW 4 (.move (.c .nsl)),oW 5 (.move (oB false))]
 (oQ [oW 9 (.buildSlice 94 5 (.agg [.str [],.int .i64 0,.int .i64 0,.int .i64 0,.str []]) 0 []),oM 10 0,oW 11 (.append 94 5 56 (.t 9) (.t 10)),oM 12 1,oW 13 (.append 94 5 56 (.t 11) (.t 12)),oW 14 (.call (oF 292) [.t 13]),oM 8 14,oX 15 8 0,oX 16 8 1,oM 6 15,oM 7 16]
 (.seq (oQ [oM 17 7,oW 18 (.eqn 4 true (.t 17) (.c .nili))]
 (.cond (.t 18) (oQ [oW 4 (.move (.c .nsl)),oW 5 (.move (oB false))]
 .ret) .skip))
 (oQ [oM 19 6,oW 20 (.call (oF 293) [.t 19]),oM 4 20,oW 5 (.move (oB true))]
 .ret))))}
theorem c236:aD Tryz.prog Tryz.f236 .pure=some a7:=by kernel_rfl
def ZZ:aL:={ntmps:=15,results:=[.t 6,.t 7],mode:=.pure,body :=
 (oQ [oW 3 (.box 37 6 (.t 0)),oW 4 (.box 45 2 (.t 1)),oW 5 (.box 45 2 (.t 2)),oW 6 (.move (oI 0)),oW 7 (.move (oB false))]
 (oQ [oA 8 4 3,oD 9 8,oL 10 2 5,oW 11 (.makeFunc 295 [.t 4]),oW 12 (.call (oF 294) [.t 9,.t 10,.t 11]),oX 13 12 0,oX 14 12 1,oM 6 13,oM 7 14]
 .ret))}
theorem c237:aD Tryz.prog Tryz.f237 .pure=some ZZ:=by kernel_rfl
def TQ:aL:={ntmps:=95,results:=[.t 6],mode:=.split,body :=
 (oQ [oW 6 (.move (.c .nsl))]
 (oQ [oM 10 0,oM 11 1,oW 12 (.sliceSl 7 (.t 10) (some (.t 11)) none)]
 (oQ [oM 13 2,oW 14 (.len 1 (.t 13)),oM 7 14]
 (.seq (oQ [oM 15 7,oW 16 (.arith .eql (.t 15) (oI 0))]
 (.cond (.t 16) (oQ [oM 17 0,oM 6 17]
 .ret) .skip))
 (oQ [oM 18 0,oW 19 (.len 1 (.t 18)),oM 8 19]
 (.seq (oQ [oM 20 1,oM 21 8,oW 22 (.arith .eql (.t 20) (.t 21))]
 (.cond (.t 22) (oQ [oM 23 0,oM 24 2,oW 25 (.append 70 7 72 (.t 23) (.t 24)),oM 6 25]
 .ret) .skip))
 (.seq (oQ [oM 26 8,oM 27 7,oW 28 (.arith .add (.t 26) (.t 27)),oM 29 0,oW 30 (.cap (.t 29)),oW 31 (.arith .gtr (.t 28) (.t 30))]
 (.cond (.t 31) (oQ [oM 32 0,oM 33 1,oW 34 (.sliceSl 7 (.t 32) none (some (.t 33))),oM 35 8,oM 36 7,oW 37 (.arith .add (.t 35) (.t 36)),oM 38 1,oW 39 (.arith .sub (.t 37) (.t 38)),oW 40 (.appendZ 70 7 72 (.agg [.int .i64 0,.int .i64 0,.int .i64 0,.int .i64 0,.nsl,.int .i64 0,.bool false]) (.t 34) (.t 39)),oM 9 40]
 (oQ [oM 41 9,oM 42 1,oW 43 (.sliceSl 7 (.t 41) (some (.t 42)) none),oM 44 2,oW 45 (.copy 7 (.t 43) (.t 44))]
 (.seq (.draw [oRM 46 9,oRM 47 1,oRM 48 7,oR 49 (.arith .add (.t 47) (.t 48)),oR 50 (.sliceSl 7 (.t 46) (some (.t 49)) none),oRM 51 0,oRM 52 1,oR 53 (.sliceSl 7 (.t 51) (some (.t 52)) none),oW 54 (.copy 7 (.t 50) (.t 53))])
 (oQ [oM 55 9,oM 6 55]
 .ret)))) .skip))
 (oQ [oM 56 0,oM 57 8,oM 58 7,oW 59 (.arith .add (.t 57) (.t 58)),oW 60 (.sliceSl 7 (.t 56) none (some (.t 59))),oM 0 60]
 (.seq (oQ [oM 61 2,oM 62 0,oM 63 1,oM 64 7,oW 65 (.arith .add (.t 63) (.t 64)),oW 66 (.sliceSl 7 (.t 62) (some (.t 65)) none),oW 67 (.call (oF 296) [.t 61,.t 66]),oW 68 (.un .not (.t 67))]
 (.cond (.t 68) (.seq (.draw [oRM 69 0,oRM 70 1,oRM 71 7,oR 72 (.arith .add (.t 70) (.t 71)),oR 73 (.sliceSl 7 (.t 69) (some (.t 72)) none),oRM 74 0,oRM 75 1,oR 76 (.sliceSl 7 (.t 74) (some (.t 75)) none),oW 77 (.copy 7 (.t 73) (.t 76))])
 (oQ [oM 78 0,oM 79 1,oW 80 (.sliceSl 7 (.t 78) (some (.t 79)) none),oM 81 2,oW 82 (.copy 7 (.t 80) (.t 81))]
 (oQ [oM 83 0,oM 6 83]
 .ret))) .skip))
 (oQ [oM 84 0,oM 85 8,oW 86 (.sliceSl 7 (.t 84) (some (.t 85)) none),oM 87 2,oW 88 (.copy 7 (.t 86) (.t 87))]
 (oQ [oM 89 0,oM 90 1,oW 91 (.sliceSl 7 (.t 89) (some (.t 90)) none),oM 92 7,oW 93 (.call (oF 297) [.t 91,.t 92])]
 (oQ [oM 94 0,oM 6 94]
 .ret))))))))))))}
theorem c238:aD Tryz.prog Tryz.f238 .split=some TQ:=by kernel_rfl
def FF:aL:={ntmps:=15,results:=[.t 6],mode:=.full,body :=
 (oQ [oW 6 (.move (oB false))]
 (oQ [oM 7 0,oW 8 (.nilCheck (.t 7)),oA 9 0 8,oD 10 9,oM 11 1,oM 12 2,oW 13 (.build [.int .i64 0,.int .i64 0] [(0,1,.t 11),(1,1,.t 12)]),oW 14 (.call (oF 298) [.t 10,.t 13]),oM 6 14]
 .ret))}
theorem c239:aD Tryz.prog Tryz.f239 .full=some FF:=by kernel_rfl
def Nj:aI :=
 (oQ [oW 12 (.arith .lss (.t 11) (.t 10))]
 (.seq (.cond (.t 12) .skip (.exit 0))
 (.seq (.block 1 (oQ [oW 13 (.indexAddr 1 (.t 9) (.t 11)),oD 14 13,oM 5 14]
 (oQ [oM 15 3,oM 16 5,oW 17 (.len 1 (.t 16)),oW 18 (.arith .add (.t 15) (.t 17)),oM 3 18]
 (oQ [oM 19 3,oW 20 (.arith .lss (.t 19) (oI 0))]
 (.cond (.t 20) (.region [oW 21 (.makeIface 9 (.c (.str [108,101,110,32,111,117,116,32,111,102,32,114,97,110,103,101]))),oZ (.extract (.c .nilp) 0)]) .skip)))))
 (.region [oW 22 (.arith .add (.t 11) (oI 1)),oM 11 22]))))
def yG:aI :=
 (oQ [oW 28 (.arith .lss (.t 27) (.t 26))]
 (.seq (.cond (.t 28) .skip (.exit 2))
 (.seq (.block 3 (oQ [oW 29 (.indexAddr 1 (.t 25) (.t 27)),oD 30 29,oM 8 30]
 (.region [oM 31 6,oM 32 8,oW 33 (.append 49 7 88 (.t 31) (.t 32)),oM 6 33])))
 (.region [oW 34 (.arith .add (.t 27) (oI 1)),oM 27 34]))))
def Yd:aI :=
 (oQ [oM 35 6,oM 2 35]
 .ret)
def Yc:aI :=
 (oQ [oM 23 3,oW 24 (.call (oF 299) [.c .nsl,.t 23]),oM 6 24]
 (.seq (oQ [oM 25 0,oW 26 (.len 1 (.t 25)),oW 27 (.move (oI 0))]
 (.block 2 (.loop yG)))
 Yd))
def W8:aL:={ntmps:=36,results:=[.t 2],mode:=.pure,body :=
 (oQ [oW 2 (.move (.c .nsl))]
 (oQ [oW 3 (.move (oI 0))]
 (.seq (oQ [oM 9 0,oW 10 (.len 1 (.t 9)),oW 11 (.move (oI 0))]
 (.block 0 (.loop Nj)))
 Yc)))}
theorem c240:aD Tryz.prog Tryz.f240 .pure=some W8:=by kernel_rfl
def TO:aI :=
 (.seq (oQ [oM 15 9,oM 16 10,oW 17 (.arith .lss (.t 15) (.t 16))]
 (.cond (.t 17) .skip (.exit 0)))
 (.block 1 (oQ [oM 18 9,oM 19 10,oW 20 (.arith .add (.t 18) (.t 19)),oW 21 (.conv .u64 (.t 20)),oW 22 (.arith .shr (.t 21) (.c (.int .u64 1))),oW 23 (.conv .i64 (.t 22)),oM 11 23]
 (.seq (.draw [oRM 25 0,oRM 26 11,oR 27 (.indexAddr 3 (.t 25) (.t 26)),oRL 28 3 27,oRL 29 2 4,oRM 24 2,oW 30 (.call (.t 24) [.t 28,.t 29]),nK 31 (.arith .lss (.t 30) (oI 0)) .read 1])
 (.cond (.t 31) (.region [oM 32 11,oW 33 (.arith .add (.t 32) (oI 1)),oM 9 33]) (.region [oM 34 11,oM 10 34]))))))
def TP:aI :=
 (.seq (.draw [oRM 36 9,oRM 37 8,oR 38 (.arith .lss (.t 36) (.t 37)),oRM 39 38,rM 41 0 39 true,rM 42 9 39 true,rW 43 (.indexAddr 3 (.t 41) (.t 42)) 39 true,rL 44 3 43 39 true,rL 45 2 4 39 true,rM 40 2 39 true,gW 46 (.call (.t 40) [.t 44,.t 45]) 39 true,oRM 35 9,⟨(some 47),.arith .eql (.t 46) (oI 0),(some (39,true)),.read,1,false⟩,nK 48 (.pick (.t 39) (.t 47) (oB false)) .read 1,nK 6 (.move (.t 35)) .read 1,nK 7 (.move (.t 48)) .read 1])
 .ret)
def ZY:aL:={ntmps:=49,results:=[.t 6,.t 7],mode:=.pure,body :=
 (oQ [oW 4 (.box 45 2 (.t 1)),oW 6 (.move (oI 0)),oW 7 (.move (oB false))]
 (oQ [oM 12 0,oW 13 (.len 1 (.t 12)),oM 8 13]
 (oQ [oM 14 8,oW 9 (.move (oI 0)),oM 10 14]
 (.seq (.block 0 (.loop TO))
 TP))))}
theorem c241:aD Tryz.prog Tryz.f241 .pure=some ZY:=by kernel_rfl
def ZX:aL:={ntmps:=15,results:=[.t 4],mode:=.pure,body :=
 (oQ [oW 2 (.box 134 3 (.t 0)),oW 3 (.box 45 2 (.t 1)),oW 4 (.move (oI 0))]
 (.seq (.block 0 (oQ [oA 6 0 2,oL 7 2 6,oL 8 2 3,oW 9 (.eqa false [1,1] (.t 7) (.t 8)),oM 5 9]
 (.cond (.t 5) (oQ [oW 4 (.move (oI 0))]
 .ret) (oQ [oA 11 0 2,oL 12 2 11,oL 13 2 3,oW 14 (.call (oF 147) [.t 12,.t 13]),oM 10 14]
 (.cond (.t 10) (oQ [oW 4 (.move (oI (-1)))]
 .ret) .skip)))))
 (oQ [oW 4 (.move (oI 1))]
 .ret)))}
theorem c242:aD Tryz.prog Tryz.f242 .pure=some ZX:=by kernel_rfl
def ZW:aL:={ntmps:=10,results:=[],mode:=.full,body :=
 (.region [oM 4 0,oM 5 0,oW 6 (.len 1 (.t 5)),oM 7 1,oW 8 (.arith .sub (.t 6) (.t 7)),oW 9 (.call (oF 300) [.t 4,.t 8])])}
theorem c244:aD Tryz.prog Tryz.f244 .full=some ZW:=by kernel_rfl
def TM:aI :=
 (oQ [oW 12 (.arith .lss (.t 11) (.t 10))]
 (.seq (.cond (.t 12) .skip (.exit 0))
 (.seq (.block 1 (oQ [oW 13 (.indexAddr 5 (.t 9) (.t 11)),oL 14 5 13,oW 6 (.alloc 94 5 (.agg [.str [],.int .i64 0,.int .i64 0,.int .i64 0,.str []])),oS 5 6 14]
 (oQ [oM 16 1,oA 17 0 6,oD 18 17,oW 19 (.call (oF 301) [.t 16,.t 18]),oM 15 19,oX 20 15 0,oX 21 15 1,oW 7 (.alloc 184 3 (.agg [.bool false,.int .i64 0,.str []])),oS 3 7 20,oM 8 21]
 (oQ [oM 22 8,oW 23 (.un .not (.t 22)),oM 24 23,gL 25 5 6 24 false,gL 26 3 7 24 false,gW 27 (.call (oF 302) [.t 25,.t 26]) 24 false,gW 28 (.un .not (.t 27)) 24 false,oW 29 (.pick (.t 24) (oB true) (.t 28))]
 (.cond (.t 29) (oQ [oW 4 (.move (oB false))]
 .ret) .skip)))))
 (.region [oW 30 (.arith .add (.t 11) (oI 1)),oM 11 30]))))
def TN:aI :=
 (oQ [oW 4 (.move (oB true))]
 .ret)
def ZV:aL:={ntmps:=31,results:=[.t 4],mode:=.pure,body :=
 (oQ [oW 4 (.move (oB false))]
 (.seq (oQ [oM 9 0,oW 10 (.len 1 (.t 9)),oW 11 (.move (oI 0))]
 (.block 0 (.loop TM)))
 TN))}
theorem c245:aD Tryz.prog Tryz.f245 .pure=some ZV:=by kernel_rfl
def ZU:aL:={ntmps:=7,results:=[.t 2],mode:=.full,body :=
 (oQ [oW 2 (.move (.c .nsl))]
 (oQ [oM 3 0,oW 4 (.call (oF 142) [.t 3])]
 (oQ [oM 5 0,oW 6 (.call (oF 143) [.t 5]),oM 2 6]
 .ret)))}
theorem c246:aD Tryz.prog Tryz.f246 .full=some ZU:=by kernel_rfl
def W7:aL:={ntmps:=33,results:=[.t 6],mode:=.full,body :=
 (oQ [oW 6 (.move (.c .nsl))]
 (oQ [oM 8 0,oM 9 1,oM 10 2,oM 11 0,oW 12 (.len 1 (.t 11)),oW 13 (.slice3 (.t 8) (.t 9) (.t 10) (.t 12))]
 (.seq (oQ [oM 14 1,oM 15 2,oW 16 (.arith .eql (.t 14) (.t 15))]
 (.cond (.t 16) (oQ [oM 17 0,oM 6 17]
 .ret) .skip))
 (oQ [oM 18 0,oW 19 (.len 1 (.t 18)),oM 7 19]
 (.seq (.draw [oRM 20 0,oRM 21 1,oR 22 (.sliceSl 4 (.t 20) none (some (.t 21))),oRM 23 0,oRM 24 2,oR 25 (.sliceSl 4 (.t 23) (some (.t 24)) none),oW 26 (.append 68 4 48 (.t 22) (.t 25)),nK 0 (.move (.t 26)) .read 1])
 (oQ [oM 27 0,oM 28 0,oW 29 (.len 1 (.t 28)),oM 30 7,oW 31 (.sliceSl 4 (.t 27) (some (.t 29)) (some (.t 30))),oZ (.clear 4 (.agg [.int .i64 0,.int .i64 0,.nsl,.int .i64 0]) (.t 31))]
 (oQ [oM 32 0,oM 6 32]
 .ret)))))))}
theorem c263:aD Tryz.prog Tryz.f263 .full=some W7:=by kernel_rfl
def Ni:aI :=
 (.seq (oQ [oM 16 6,oM 17 0,oW 18 (.len 1 (.t 17)),oW 19 (.arith .lss (.t 16) (.t 18))]
 (.cond (.t 19) .skip (.exit 0)))
 (.seq (.block 1 (oQ [oM 22 0,oM 23 6,oW 24 (.indexAddr 7 (.t 22) (.t 23)),oL 25 7 24,oW 7 (.alloc 70 7 (.agg [.int .i64 0,.int .i64 0,.int .i64 0,.int .i64 0,.nsl,.int .i64 0,.bool false])),oS 7 7 25]
 (oQ [oM 26 1,oL 27 7 7,oW 28 (.call (.t 26) [.t 27]),oW 29 (.un .not (.t 28))]
 (.cond (.t 29) (oQ [oM 30 0,oM 31 5,oL 32 7 7,oW 33 (.indexAddr 7 (.t 30) (.t 31)),oS 7 33 32]
 (.region [oM 34 5,oW 35 (.arith .add (.t 34) (oI 1)),oM 5 35])) .skip))))
 (.region [oM 20 6,oW 21 (.arith .add (.t 20) (oI 1)),oM 6 21])))
def Yb:aI :=
 (oQ [oM 36 0,oM 37 5,oW 38 (.sliceSl 7 (.t 36) (some (.t 37)) none),oZ (.clear 7 (.agg [.int .i64 0,.int .i64 0,.int .i64 0,.int .i64 0,.nsl,.int .i64 0,.bool false]) (.t 38))]
 (oQ [oM 39 0,oM 40 5,oW 41 (.sliceSl 7 (.t 39) none (some (.t 40))),oM 4 41]
 .ret))
def W6:aL:={ntmps:=42,results:=[.t 4],mode:=.full,body :=
 (oQ [oW 4 (.move (.c .nsl))]
 (oQ [oM 8 0,oM 9 1,oW 10 (.call (oF 222) [.t 8,.t 9]),oM 5 10]
 (.seq (oQ [oM 11 5,oW 12 (.arith .eql (.t 11) (oI (-1)))]
 (.cond (.t 12) (oQ [oM 13 0,oM 4 13]
 .ret) .skip))
 (.seq (oQ [oM 14 5,oW 15 (.arith .add (.t 14) (oI 1)),oM 6 15]
 (.block 0 (.loop Ni)))
 Yb))))}
theorem c264:aD Tryz.prog Tryz.f264 .full=some W6:=by kernel_rfl
def W5:aL:={ntmps:=8,results:=[.t 3],mode:=.pure,body :=
 (oQ [oW 2 (.box 70 7 (.t 0)),oW 3 (.move (oB false))]
 (oQ [oA 4 0 2,oL 5 2 4,oL 6 2 1,oW 7 (.eqa false [1,1] (.t 5) (.t 6)),oM 3 7]
 .ret))}
theorem c265:aD Tryz.prog Tryz.f265 .pure=some W5:=by kernel_rfl
def TK:aI :=
 (oQ [oW 59 (.arith .lss (.t 58) (.t 57))]
 (.seq (.cond (.t 59) .skip (.exit 0))
 (.seq (.block 1 (oQ [oM 60 58,oW 61 (.indexAddr 7 (.t 56) (.t 58)),oL 62 7 61,oW 14 (.alloc 70 7 (.agg [.int .i64 0,.int .i64 0,.int .i64 0,.int .i64 0,.nsl,.int .i64 0,.bool false])),oM 13 60,oS 7 14 62]
 (oQ [oA 63 0 14,oL 64 2 63,oL 65 2 5,oW 66 (.eqa false [1,1] (.t 64) (.t 65)),oM 67 66,gA 68 6 14 67 true,gD 69 68 67 true,gW 70 (.un .not (.t 69)) 67 true,oW 71 (.pick (.t 67) (.t 70) (oB false)),oM 72 71,gL 73 6 4 72 true,gL 74 2 5 72 true,gA 75 4 14 72 true,gD 76 75 72 true,gW 77 (.call (oF 164) [.t 73,.t 74,.t 76]) 72 true,gW 78 (.un .not (.t 77)) 72 true,oW 79 (.pick (.t 72) (.t 78) (oB false))]
 (.cond (.t 79) (oQ [oA 80 4 4,oD 81 80,oM 82 13,oW 83 (.indexAddr 7 (.t 81) (.t 82)),oA 84 6 83,oZ (.store 1 (.t 84) (oB true))]
 (.region [oM 85 9,oA 86 4 4,oD 87 86,oM 88 13,oW 89 (.indexAddr 7 (.t 87) (.t 88)),oL 90 7 89,oW 91 (.buildSlice 70 7 (.agg [.int .i64 0,.int .i64 0,.int .i64 0,.int .i64 0,.nsl,.int .i64 0,.bool false]) 1 [(0,.t 90)]),oW 92 (.append 70 7 72 (.t 85) (.t 91)),oM 9 92])) .skip))))
 (.region [oW 93 (.arith .add (.t 58) (oI 1)),oM 58 93]))))
def TL:aI :=
 (oQ [oL 94 6 4,oM 95 9,oS 6 8 94,oM 9 95,oW 10 (.move (oB true))]
 .ret)
def ZT:aL:={ntmps:=96,results:=[(.cell 8 (some 6)),.t 9,.t 10],mode:=.frz,body :=
 (oQ [oW 4 (.box 37 6 (.t 0)),oW 5 (.box 45 2 (.t 1)),oW 6 (.box 45 2 (.t 2)),oW 8 (.alloc 37 6 (.agg [.int .i64 0,.nsl,.nsl,.nsl,.nsl,.nsl])),oW 9 (.move (.c .nsl)),oW 10 (.move (oB false))]
 (oQ [oA 15 4 4,oD 16 15,oW 17 (.call (oF 91) [.t 16]),oA 18 4 4,oS 1 18 17]
 (oQ [oL 20 6 4,oL 21 2 5,oL 22 2 6,oW 23 (.call (oF 237) [.t 20,.t 21,.t 22]),oM 19 23,oX 24 19 0,oX 25 19 1,oM 11 24,oM 12 25]
 (.seq (oQ [oM 26 12,oW 27 (.un .not (.t 26)),oM 28 27,gA 29 4 4 28 false,gD 30 29 28 false,gM 31 11 28 false,gW 32 (.indexAddr 7 (.t 30) (.t 31)) 28 false,gA 33 5 32 28 false,gD 34 33 28 false,gM 35 3 28 false,gW 36 (.arith .neq (.t 34) (.t 35)) 28 false,oW 37 (.pick (.t 28) (oB true) (.t 36))]
 (.cond (.t 37) (oQ [oL 38 6 4,oS 6 8 38,oW 9 (.move (.c .nsl)),oW 10 (.move (oB false))]
 .ret) .skip))
 (oQ [oA 39 4 4,oD 40 39,oM 41 11,oW 42 (.indexAddr 7 (.t 40) (.t 41)),oA 43 6 42,oD 44 43,oM 10 44]
 (oQ [oA 45 4 4,oD 46 45,oM 47 11,oM 48 11,oW 49 (.arith .add (.t 48) (oI 1)),oW 50 (.call (oF 310) [.t 46,.t 47,.t 49]),oA 51 4 4,oS 1 51 50]
 (.seq (oQ [oM 52 10,oW 53 (.un .not (.t 52))]
 (.cond (.t 53) (oQ [oL 54 6 4,oS 6 8 54,oW 9 (.move (.c .nsl)),oW 10 (.move (oB false))]
 .ret) .skip))
 (.seq (oQ [oA 55 4 4,oD 56 55,oW 57 (.len 1 (.t 56)),oW 58 (.move (oI 0))]
 (.block 0 (.loop TK)))
 TL))))))))}
theorem c266:aD Tryz.prog Tryz.f266 .frz=some ZT:=by kernel_rfl
def Ya:aI :=
 (.seq (oQ [oM 15 9,oM 16 10,oW 17 (.arith .lss (.t 15) (.t 16))]
 (.cond (.t 17) .skip (.exit 0)))
 (.block 1 (oQ [oM 18 9,oM 19 10,oW 20 (.arith .add (.t 18) (.t 19)),oW 21 (.conv .u64 (.t 20)),oW 22 (.arith .shr (.t 21) (.c (.int .u64 1))),oW 23 (.conv .i64 (.t 22)),oM 11 23]
 (.seq (.draw [oRM 25 0,oRM 26 11,oR 27 (.indexAddr 2 (.t 25) (.t 26)),oRL 28 2 27,oRL 29 2 4,oRM 24 2,oW 30 (.call (.t 24) [.t 28,.t 29]),nK 31 (.arith .lss (.t 30) (oI 0)) .read 1])
 (.cond (.t 31) (.region [oM 32 11,oW 33 (.arith .add (.t 32) (oI 1)),oM 9 33]) (.region [oM 34 11,oM 10 34]))))))
def Nh:aI :=
 (.seq (.draw [oRM 36 9,oRM 37 8,oR 38 (.arith .lss (.t 36) (.t 37)),oRM 39 38,rM 41 0 39 true,rM 42 9 39 true,rW 43 (.indexAddr 2 (.t 41) (.t 42)) 39 true,rL 44 2 43 39 true,rL 45 2 4 39 true,rM 40 2 39 true,gW 46 (.call (.t 40) [.t 44,.t 45]) 39 true,oRM 35 9,⟨(some 47),.arith .eql (.t 46) (oI 0),(some (39,true)),.read,1,false⟩,nK 48 (.pick (.t 39) (.t 47) (oB false)) .read 1,nK 6 (.move (.t 35)) .read 1,nK 7 (.move (.t 48)) .read 1])
 .ret)
def W4:aL:={ntmps:=49,results:=[.t 6,.t 7],mode:=.pure,body :=
 (oQ [oW 4 (.box 45 2 (.t 1)),oW 6 (.move (oI 0)),oW 7 (.move (oB false))]
 (oQ [oM 12 0,oW 13 (.len 1 (.t 12)),oM 8 13]
 (oQ [oM 14 8,oW 9 (.move (oI 0)),oM 10 14]
 (.seq (.block 0 (.loop Ya))
 Nh))))}
theorem c276:aD Tryz.prog Tryz.f276 .pure=some W4:=by kernel_rfl
def ZS:aL:={ntmps:=45,results:=[.t 4],mode:=.pure,body :=
 (oQ [oW 2 (.box 94 5 (.t 0)),oW 3 (.box 94 5 (.t 1)),oW 4 (.move (oB false))]
 (.seq (oQ [oA 5 1 3,oD 6 5]
 (.block 0 (oQ [oW 8 (.arith .eql (.t 6) (oI 1)),oM 7 8]
 (.cond (.t 7) (oQ [oA 9 1 2,oD 10 9,oW 11 (.arith .eql (.t 10) (oI 1)),oM 12 11,gA 13 2 2 12 true,gD 14 13 12 true,gA 15 2 3 12 true,gD 16 15 12 true,gW 17 (.arith .leq (.t 14) (.t 16)) 12 true,oW 18 (.pick (.t 12) (.t 17) (oB false)),oM 19 18,gA 20 3 3 19 true,gD 21 20 19 true,gA 22 3 2 19 true,gD 23 22 19 true,gW 24 (.arith .leq (.t 21) (.t 23)) 19 true,oW 25 (.pick (.t 19) (.t 24) (oB false)),oM 4 25]
 .ret) (oQ [oW 27 (.arith .eql (.t 6) (oI 3)),oM 26 27]
 (.cond (.t 26) (oQ [oA 28 1 2,oD 29 28,oW 30 (.arith .eql (.t 29) (oI 3)),oM 31 30,gA 32 4 3 31 true,gD 33 32 31 true,gA 34 4 2 31 true,gD 35 34 31 true,gW 36 (.call (oF 314) [.t 33,.t 35]) 31 true,oW 37 (.pick (.t 31) (.t 36) (oB false)),oM 4 37]
 .ret) (oQ [oW 39 (.arith .eql (.t 6) (oI 2)),oM 38 39]
 (.cond (.t 38) (.seq (.draw [oRL 40 5 2,oRA 41 4 3,oRD 42 41,nK 43 (.call (oF 315) [.t 42]) .create 0,nK 44 (.call (oF 302) [.t 40,.t 43]) .write 1,nK 4 (.move (.t 44)) .read 2])
 .ret) .skip))))))))
 (oQ [oW 4 (.move (oB false))]
 .ret)))}
theorem c278:aD Tryz.prog Tryz.f278 .pure=some ZS:=by kernel_rfl
def ZR:aL:={ntmps:=10,results:=[],mode:=.full,body :=
 (.region [oM 4 0,oM 5 0,oW 6 (.len 1 (.t 5)),oM 7 1,oW 8 (.arith .sub (.t 6) (.t 7)),oW 9 (.call (oF 319) [.t 4,.t 8])])}
theorem c289:aD Tryz.prog Tryz.f289 .full=some ZR:=by kernel_rfl
def ZQ:aL:={ntmps:=10,results:=[],mode:=.full,body :=
 (.region [oM 4 0,oM 5 0,oW 6 (.len 1 (.t 5)),oM 7 1,oW 8 (.arith .sub (.t 6) (.t 7)),oW 9 (.call (oF 320) [.t 4,.t 8])])}
theorem c291:aD Tryz.prog Tryz.f291 .full=some ZQ:=by kernel_rfl
def TH:aI :=
 (oQ [oW 16 (.arith .lss (.t 15) (.t 14))]
 (.seq (.cond (.t 16) .skip (.exit 0))
 (.seq (.block 1 (oQ [oM 17 15,oW 18 (.indexAddr 5 (.t 13) (.t 15)),oL 19 5 18,oW 5 (.alloc 94 5 (.agg [.str [],.int .i64 0,.int .i64 0,.int .i64 0,.str []])),oM 4 17,oS 5 5 19]
 (oQ [oL 20 5 5,oW 21 (.call (oF 203) [.t 20]),oW 22 (.un .not (.t 21))]
 (.cond (.t 22) (oQ [oM 23 4,oW 24 (.makeIface 57 (oI 1)),oW 25 (.call (oF 49) [(.c (.str [112,114,101,100])),.t 23,.t 24]),oW 2 (.move (.c .nsl)),oM 3 25]
 .ret) .skip))))
 (.region [oW 26 (.arith .add (.t 15) (oI 1)),oM 15 26]))))
def TG:aI :=
 (oQ [oW 30 (.arith .lss (.t 29) (.t 28))]
 (.seq (.cond (.t 30) .skip (.exit 2))
 (.seq (.block 3 (oQ [oM 31 29,oW 32 (.indexAddr 5 (.t 27) (.t 29)),oL 33 5 32,oW 8 (.alloc 94 5 (.agg [.str [],.int .i64 0,.int .i64 0,.int .i64 0,.str []])),oM 7 31,oS 5 8 33]
 (oQ [oM 35 6,oA 36 0 8,oD 37 36,oW 38 (.call (oF 321) [.t 35,.t 37,oF 322]),oM 34 38,oX 39 34 0,oX 40 34 1,oM 9 39,oM 10 40]
 (.block 4 (oQ [oM 47 10,oM 46 47]
 (.cond (.t 46) (.seq (.draw [oRM 49 6,oRM 50 9,oR 51 (.indexAddr 5 (.t 49) (.t 50)),oRL 52 5 51,oRL 53 5 8,oW 54 (.call (oF 324) [.t 52,.t 53]),nK 48 (.move (.t 54)) .read 1,nK 55 (.extract (.t 48) 0) .read 1,nK 11 (.alloc 94 5 (.agg [.str [],.int .i64 0,.int .i64 0,.int .i64 0,.str []])) .create 0,⟨none,.store 5 (.t 11) (.t 55),none,.write,2,false⟩,nK 56 (.extract (.t 48) 1) .read 1,nK 12 (.move (.t 56)) .read 3])
 (.seq (oQ [oM 57 12,oW 58 (.un .not (.t 57))]
 (.cond (.t 58) (oQ [oM 59 7,oW 60 (.makeIface 57 (oI 5)),oW 61 (.call (oF 49) [(.c (.str [112,114,101,100])),.t 59,.t 60]),oW 2 (.move (.c .nsl)),oM 3 61]
 .ret) .skip))
 (.region [oM 62 6,oM 63 9,oL 64 5 11,oW 65 (.indexAddr 5 (.t 62) (.t 63)),oS 5 65 64]))) (oQ [oM 67 6,oW 68 (.len 1 (.t 67)),oW 69 (.arith .eql (.t 68) (oI 5)),oM 66 69]
 (.cond (.t 66) (oQ [oM 70 7,oW 71 (.makeIface 57 (oI 7)),oW 72 (.call (oF 49) [(.c (.str [112,114,101,100])),.t 70,.t 71]),oW 2 (.move (.c .nsl)),oM 3 72]
 .ret) (.region [oM 41 6,oM 42 9,oL 43 5 8,oW 44 (.buildSlice 94 5 (.agg [.str [],.int .i64 0,.int .i64 0,.int .i64 0,.str []]) 1 [(0,.t 43)]),oW 45 (.call (oF 325) [.t 41,.t 42,.t 44]),oM 6 45])))))))))
 (.region [oW 73 (.arith .add (.t 29) (oI 1)),oM 29 73]))))
def TJ:aI :=
 (oQ [oM 74 6,oM 2 74,oW 3 (.move (.c .nili))]
 .ret)
def TI:aI :=
 (oQ [oW 6 (.move (.c .nsl))]
 (.seq (oQ [oM 27 0,oW 28 (.len 1 (.t 27)),oW 29 (.move (oI 0))]
 (.block 2 (.loop TG)))
 TJ))
def ZP:aL:={ntmps:=75,results:=[.t 2,.t 3],mode:=.pure,body :=
 (oQ [oW 2 (.move (.c .nsl)),oW 3 (.move (.c .nili))]
 (.seq (oQ [oM 13 0,oW 14 (.len 1 (.t 13)),oW 15 (.move (oI 0))]
 (.block 0 (.loop TH)))
 TI))}
theorem c292:aD Tryz.prog Tryz.f292 .pure=some ZP:=by kernel_rfl
def TE:aI :=
 (oQ [oW 10 (.arith .lss (.t 9) (.t 8))]
 (.seq (.cond (.t 10) .skip (.exit 0))
 (.seq (.block 1 (oQ [oW 11 (.indexAddr 5 (.t 7) (.t 9)),oL 12 5 11,oW 5 (.alloc 94 5 (.agg [.str [],.int .i64 0,.int .i64 0,.int .i64 0,.str []])),oS 5 5 12]
 (oQ [oA 13 4 5,oD 14 13,oW 15 (.call (oF 315) [.t 14]),oW 6 (.alloc 184 3 (.agg [.bool false,.int .i64 0,.str []])),oS 3 6 15]
 (.seq (oQ [oA 16 1 5,oD 17 16,oW 18 (.arith .eql (.t 17) (oI 1))]
 (.cond (.t 18) (.region [oA 19 2 5,oD 20 19,oW 21 (.call (oF 326) [.t 20]),oS 3 6 21]) .skip))
 (.region [oM 22 3,oA 23 0 5,oD 24 23,oL 25 3 6,oW 26 (.build [.str [],.bool false,.int .i64 0,.str []] [(0,1,.t 24),(1,3,.t 25)]),oW 27 (.buildSlice 187 4 (.agg [.str [],.bool false,.int .i64 0,.str []]) 1 [(0,.t 26)]),oW 28 (.append 187 4 48 (.t 22) (.t 27)),oM 3 28])))))
 (.region [oW 29 (.arith .add (.t 9) (oI 1)),oM 9 29]))))
def TF:aI :=
 (oQ [oM 30 3,oM 2 30]
 .ret)
def ZO:aL:={ntmps:=31,results:=[.t 2],mode:=.pure,body :=
 (oQ [oW 2 (.move (.c .nsl))]
 (oQ [oW 3 (.move (.c .nsl))]
 (.seq (oQ [oM 7 0,oW 8 (.len 1 (.t 7)),oW 9 (.move (oI 0))]
 (.block 0 (.loop TE)))
 TF)))}
theorem c293:aD Tryz.prog Tryz.f293 .pure=some ZO:=by kernel_rfl
def TC:aI :=
 (.seq (oQ [oM 15 9,oM 16 10,oW 17 (.arith .lss (.t 15) (.t 16))]
 (.cond (.t 17) .skip (.exit 0)))
 (.block 1 (oQ [oM 18 9,oM 19 10,oW 20 (.arith .add (.t 18) (.t 19)),oW 21 (.conv .u64 (.t 20)),oW 22 (.arith .shr (.t 21) (.c (.int .u64 1))),oW 23 (.conv .i64 (.t 22)),oM 11 23]
 (.seq (.draw [oRM 25 0,oRM 26 11,oR 27 (.indexAddr 7 (.t 25) (.t 26)),oRL 28 7 27,oRL 29 2 4,oRM 24 2,oW 30 (.call (.t 24) [.t 28,.t 29]),nK 31 (.arith .lss (.t 30) (oI 0)) .read 1])
 (.cond (.t 31) (.region [oM 32 11,oW 33 (.arith .add (.t 32) (oI 1)),oM 9 33]) (.region [oM 34 11,oM 10 34]))))))
def TD:aI :=
 (.seq (.draw [oRM 36 9,oRM 37 8,oR 38 (.arith .lss (.t 36) (.t 37)),oRM 39 38,rM 41 0 39 true,rM 42 9 39 true,rW 43 (.indexAddr 7 (.t 41) (.t 42)) 39 true,rL 44 7 43 39 true,rL 45 2 4 39 true,rM 40 2 39 true,gW 46 (.call (.t 40) [.t 44,.t 45]) 39 true,oRM 35 9,⟨(some 47),.arith .eql (.t 46) (oI 0),(some (39,true)),.read,1,false⟩,nK 48 (.pick (.t 39) (.t 47) (oB false)) .read 1,nK 6 (.move (.t 35)) .read 1,nK 7 (.move (.t 48)) .read 1])
 .ret)
def ZN:aL:={ntmps:=49,results:=[.t 6,.t 7],mode:=.pure,body :=
 (oQ [oW 4 (.box 45 2 (.t 1)),oW 6 (.move (oI 0)),oW 7 (.move (oB false))]
 (oQ [oM 12 0,oW 13 (.len 1 (.t 12)),oM 8 13]
 (oQ [oM 14 8,oW 9 (.move (oI 0)),oM 10 14]
 (.seq (.block 0 (.loop TC))
 TD))))}
theorem c294:aD Tryz.prog Tryz.f294 .pure=some ZN:=by kernel_rfl
def ZM:aL:={ntmps:=34,results:=[.t 5],mode:=.pure,body :=
 (oQ [oW 3 (.box 70 7 (.t 0)),oW 4 (.box 45 2 (.t 1)),oW 5 (.move (oI 0))]
 (.seq (.block 0 (oQ [oA 7 0 3,oL 8 2 7,oL 9 2 2,oW 10 (.eqa false [1,1] (.t 8) (.t 9)),oM 11 10,gA 12 2 3 11 true,gL 13 2 12 11 true,gL 14 2 4 11 true,gW 15 (.eqa false [1,1] (.t 13) (.t 14)) 11 true,oW 16 (.pick (.t 11) (.t 15) (oB false)),oM 6 16]
 (.cond (.t 6) (oQ [oW 5 (.move (oI 0))]
 .ret) (oQ [oA 18 0 3,oL 19 2 18,oL 20 2 2,oW 21 (.call (oF 147) [.t 19,.t 20]),oM 22 21,gA 23 0 3 22 false,gL 24 2 23 22 false,gL 25 2 2 22 false,gW 26 (.eqa false [1,1] (.t 24) (.t 25)) 22 false,gM 27 26 22 false,gA 28 2 3 27 true,gL 29 2 28 27 true,gL 30 2 4 27 true,gW 31 (.call (oF 147) [.t 29,.t 30]) 27 true,gW 32 (.pick (.t 27) (.t 31) (oB false)) 22 false,oW 33 (.pick (.t 22) (oB true) (.t 32)),oM 17 33]
 (.cond (.t 17) (oQ [oW 5 (.move (oI (-1)))]
 .ret) .skip)))))
 (oQ [oW 5 (.move (oI 1))]
 .ret)))}
theorem c295:aD Tryz.prog Tryz.f295 .pure=some ZM:=by kernel_rfl
def ZK:aL:={ntmps:=10,results:=[],mode:=.full,body :=
 (.region [oM 4 0,oM 5 0,oW 6 (.len 1 (.t 5)),oM 7 1,oW 8 (.arith .sub (.t 6) (.t 7)),oW 9 (.call (oF 327) [.t 4,.t 8])])}
theorem c297:aD Tryz.prog Tryz.f297 .full=some ZK:=by kernel_rfl
def W3:aL:={ntmps:=9,results:=[.t 4],mode:=.pure,body :=
 (oQ [oW 3 (.box 86 2 (.t 1)),oW 4 (.move (oB false))]
 (oQ [oM 5 0,oL 6 2 3,oW 7 (.call (oF 328) [.t 5,.t 6]),oW 8 (.arith .geq (.t 7) (oI 0)),oM 4 8]
 .ret))}
theorem c298:aD Tryz.prog Tryz.f298 .pure=some W3:=by kernel_rfl
def Xz:aL:={ntmps:=27,results:=[.t 4],mode:=.full,body :=
 (oQ [oW 4 (.move (.c .nsl))]
 (.seq (oQ [oM 5 1,oW 6 (.arith .lss (.t 5) (oI 0))]
 (.cond (.t 6) (.region [oW 7 (.makeIface 9 (.c (.str [99,97,110,110,111,116,32,98,101,32,110,101,103,97,116,105,118,101]))),oZ (.extract (.c .nilp) 0)]) .skip))
 (.seq (oQ [oM 8 1,oM 9 0,oW 10 (.cap (.t 9)),oM 11 0,oW 12 (.len 1 (.t 11)),oW 13 (.arith .sub (.t 10) (.t 12)),oW 14 (.arith .sub (.t 8) (.t 13)),oM 1 14]
 (oQ [oM 15 1,oW 16 (.arith .gtr (.t 15) (oI 0))]
 (.cond (.t 16) (.region [oM 17 0,oM 18 0,oW 19 (.cap (.t 18)),oW 20 (.sliceSl 7 (.t 17) none (some (.t 19))),oM 21 1,oW 22 (.appendZ 49 7 88 (.agg [.int .i64 0,.int .i64 0,.int .i64 0,.int .i64 0,.int .i64 0,.nsl,.nsl]) (.t 20) (.t 21)),oM 23 0,oW 24 (.len 1 (.t 23)),oW 25 (.sliceSl 7 (.t 22) none (some (.t 24))),oM 0 25]) .skip)))
 (oQ [oM 26 0,oM 4 26]
 .ret))))}
theorem c299:aD Tryz.prog Tryz.f299 .full=some Xz:=by kernel_rfl
def ZJ:aL:={ntmps:=14,results:=[],mode:=.full,body :=
 (oQ [oM 4 0,oM 5 1,oW 6 (.sliceSl 3 (.t 4) none (some (.t 5))),oW 7 (.call (oF 329) [.t 6])]
 (oQ [oM 8 0,oM 9 1,oW 10 (.sliceSl 3 (.t 8) (some (.t 9)) none),oW 11 (.call (oF 329) [.t 10])]
 (.region [oM 12 0,oW 13 (.call (oF 329) [.t 12])])))}
theorem c300:aD Tryz.prog Tryz.f300 .full=some ZJ:=by kernel_rfl
def TA:aI :=
 (oQ [oW 11 (.arith .lss (.t 10) (.t 9))]
 (.seq (.cond (.t 11) .skip (.exit 0))
 (.seq (.block 1 (oQ [oW 12 (.indexAddr 4 (.t 8) (.t 10)),oL 13 4 12,oW 7 (.alloc 187 4 (.agg [.str [],.bool false,.int .i64 0,.str []])),oS 4 7 13]
 (oQ [oA 14 0 7,oD 15 14,oM 16 1,oW 17 (.arith .eql (.t 15) (.t 16))]
 (.cond (.t 17) (oQ [oA 18 1 7,oL 19 3 18,oS 3 4 19,oW 5 (.move (oB true))]
 .ret) .skip))))
 (.region [oW 20 (.arith .add (.t 10) (oI 1)),oM 10 20]))))
def TB:aI :=
 (oQ [oW 21 (.build [.bool false,.int .i64 0,.str []] []),oS 3 4 21,oW 5 (.move (oB false))]
 .ret)
def ZI:aL:={ntmps:=22,results:=[(.cell 4 (some 3)),.t 5],mode:=.pure,body :=
 (oQ [oW 4 (.alloc 184 3 (.agg [.bool false,.int .i64 0,.str []])),oW 5 (.move (oB false))]
 (.seq (oQ [oM 8 0,oW 9 (.len 1 (.t 8)),oW 10 (.move (oI 0))]
 (.block 0 (.loop TA)))
 TB))}
theorem c301:aD Tryz.prog Tryz.f301 .pure=some ZI:=by kernel_rfl
def ZH:aL:={ntmps:=48,results:=[.t 4],mode:=.pure,body :=
 (oQ [oW 2 (.box 94 5 (.t 0)),oW 3 (.box 184 3 (.t 1)),oW 4 (.move (oB false))]
 (.seq (oQ [oA 5 1 2,oD 6 5]
 (.block 0 (oQ [oW 8 (.arith .eql (.t 6) (oI 1)),oM 7 8]
 (.cond (.t 7) (oQ [oA 9 0 3,oD 10 9,oW 11 (.un .not (.t 10)),oM 12 11,gA 13 2 2 12 true,gD 14 13 12 true,gA 15 1 3 12 true,gD 16 15 12 true,gW 17 (.arith .leq (.t 14) (.t 16)) 12 true,oW 18 (.pick (.t 12) (.t 17) (oB false)),oM 19 18,gA 20 1 3 19 true,gD 21 20 19 true,gA 22 3 2 19 true,gD 23 22 19 true,gW 24 (.arith .leq (.t 21) (.t 23)) 19 true,oW 25 (.pick (.t 19) (.t 24) (oB false)),oM 4 25]
 .ret) (oQ [oW 27 (.arith .eql (.t 6) (oI 2)),oM 26 27]
 (.cond (.t 26) (oQ [oA 28 0 3,oD 29 28,oM 30 29,gA 31 2 3 30 true,gD 32 31 30 true,gA 33 4 2 30 true,gD 34 33 30 true,gW 35 (.arith .eql (.t 32) (.t 34)) 30 true,oW 36 (.pick (.t 30) (.t 35) (oB false)),oM 4 36]
 .ret) (oQ [oW 38 (.arith .eql (.t 6) (oI 3)),oM 37 38]
 (.cond (.t 37) (oQ [oA 39 0 3,oD 40 39,oM 41 40,gA 42 2 3 41 true,gD 43 42 41 true,gA 44 4 2 41 true,gD 45 44 41 true,gW 46 (.call (oF 314) [.t 43,.t 45]) 41 true,oW 47 (.pick (.t 41) (.t 46) (oB false)),oM 4 47]
 .ret) .skip))))))))
 (oQ [oW 4 (.move (oB false))]
 .ret)))}
theorem c302:aD Tryz.prog Tryz.f302 .pure=some ZH:=by kernel_rfl
end Go.Dm.Tc
