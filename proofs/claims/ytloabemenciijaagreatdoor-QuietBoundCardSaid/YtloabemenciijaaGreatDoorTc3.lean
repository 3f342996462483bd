/- A part of the proof. -/
import Derived.Test.YtloabemenciijaaGreatDoorTc0
import Derived.Test.YtloabemenciijaaGreatDoorMm4
import Derived.Test.YtloabemenciijaaGreatDoorRows
import Derived.KernelRfl
namespace Go.Dm.Tc
open Go.Proofs
def GE:aD:={ntmps:=95,results:=[.t 6],mode:=.split,body :=
 (oQ [oW 6 (.move (.c .nsl))]
 (oQ [oM 10 0,oM 11 1,oW 12 (.sliceSl 3 (.t 10) (some (.t 11)) none)]
 (oQ [oM 13 2,oW 14 (.len 1 (.t 13)),oM 7 14]
 (.seq (oQ [oM 15 7,oW 16 (.arith .eql (.t 15) (oI 0))]
 (.cond (.t 16) (oQ [oM 17 0,oM 6 17]
 .ret) .skip))
 (oQ [oM 18 0,oW 19 (.len 1 (.t 18)),oM 8 19]
 (.seq (oQ [oM 20 1,oM 21 8,oW 22 (.arith .eql (.t 20) (.t 21))]
 (.cond (.t 22) (oQ [oM 23 0,oM 24 2,oW 25 (.append 151 3 40 (.t 23) (.t 24)),oM 6 25]
 .ret) .skip))
 (.seq (oQ [oM 26 8,oM 27 7,oW 28 (.arith .add (.t 26) (.t 27)),oM 29 0,oW 30 (.cap (.t 29)),oW 31 (.arith .gtr (.t 28) (.t 30))]
 (.cond (.t 31) (oQ [oM 32 0,oM 33 1,oW 34 (.sliceSl 3 (.t 32) none (some (.t 33))),oM 35 8,oM 36 7,oW 37 (.arith .add (.t 35) (.t 36)),oM 38 1,oW 39 (.arith .sub (.t 37) (.t 38)),oW 40 (.appendZ 151 3 40 (.agg [.int .i64 0,.int .i64 0,.nsl]) (.t 34) (.t 39)),oM 9 40]
 (oQ [oM 41 9,oM 42 1,oW 43 (.sliceSl 3 (.t 41) (some (.t 42)) none),oM 44 2,oW 45 (.copy 3 (.t 43) (.t 44))]
 (.seq (.draw [oRM 46 9,oRM 47 1,oRM 48 7,oR 49 (.arith .add (.t 47) (.t 48)),oR 50 (.sliceSl 3 (.t 46) (some (.t 49)) none),oRM 51 0,oRM 52 1,oR 53 (.sliceSl 3 (.t 51) (some (.t 52)) none),oW 54 (.copy 3 (.t 50) (.t 53))])
 (oQ [oM 55 9,oM 6 55]
 .ret)))) .skip))
 (oQ [oM 56 0,oM 57 8,oM 58 7,oW 59 (.arith .add (.t 57) (.t 58)),oW 60 (.sliceSl 3 (.t 56) none (some (.t 59))),oM 0 60]
 (.seq (oQ [oM 61 2,oM 62 0,oM 63 1,oM 64 7,oW 65 (.arith .add (.t 63) (.t 64)),oW 66 (.sliceSl 3 (.t 62) (some (.t 65)) none),oW 67 (.call (oF 293) [.t 61,.t 66]),oW 68 (.un .not (.t 67))]
 (.cond (.t 68) (.seq (.draw [oRM 69 0,oRM 70 1,oRM 71 7,oR 72 (.arith .add (.t 70) (.t 71)),oR 73 (.sliceSl 3 (.t 69) (some (.t 72)) none),oRM 74 0,oRM 75 1,oR 76 (.sliceSl 3 (.t 74) (some (.t 75)) none),oW 77 (.copy 3 (.t 73) (.t 76))])
 (oQ [oM 78 0,oM 79 1,oW 80 (.sliceSl 3 (.t 78) (some (.t 79)) none),oM 81 2,oW 82 (.copy 3 (.t 80) (.t 81))]
 (oQ [oM 83 0,oM 6 83]
 .ret))) .skip))
 (oQ [oM 84 0,oM 85 8,oW 86 (.sliceSl 3 (.t 84) (some (.t 85)) none),oM 87 2,oW 88 (.copy 3 (.t 86) (.t 87))]
 (oQ [oM 89 0,oM 90 1,oW 91 (.sliceSl 3 (.t 89) (some (.t 90)) none),oM 92 7,oW 93 (.call (oF 294) [.t 91,.t 92])]
 (oQ [oM 94 0,oM 6 94]
 .ret))))))))))))}
theorem XW:aB Tryz.prog Tryz.f231 .split=some GE:=by kernel_rfl
def GC:aG :=
 (oQ [oW 7 (.arith .lss (.t 6) (.t 5))]
 (.seq (.cond (.t 7) .skip (.exit 0))
 (.seq (.block 1 (oQ [oM 8 6,oM 3 8]
 (oQ [oM 9 0,oM 10 3,oW 11 (.indexStr (.t 9) (.t 10)),oW 12 (.arith .lss (.t 11) (.c (.int .u8 97))),oM 13 12,gM 14 0 13 false,gM 15 3 13 false,gW 16 (.indexStr (.t 14) (.t 15)) 13 false,gW 17 (.arith .gtr (.t 16) (.c (.int .u8 122))) 13 false,oW 18 (.pick (.t 13) (oB true) (.t 17))]
 (.cond (.t 18) (oQ [oW 2 (.move (oB false))]
 .ret) .skip))))
 (.region [oW 19 (.arith .add (.t 6) (oI 1)),oM 6 19]))))
def GD:aG :=
 (oQ [oM 20 0,oW 21 (.arith .neq (.t 20) (.c (.str []))),oM 22 21,gM 23 0 22 true,gW 24 (.len 0 (.t 23)) 22 true,gW 25 (.arith .leq (.t 24) (oI 12)) 22 true,oW 26 (.pick (.t 22) (.t 25) (oB false)),oM 2 26]
 .ret)
def OV:aD:={ntmps:=27,results:=[.t 2],mode:=.pure,body :=
 (oQ [oW 2 (.move (oB false))]
 (.seq (oQ [oM 4 0,oW 5 (.len 0 (.t 4)),oW 6 (.move (oI 0))]
 (.block 0 (.loop GC)))
 GD))}
theorem XV:aB Tryz.prog Tryz.f237 .pure=some OV:=by kernel_rfl
def OU:aD:={ntmps:=17,results:=[.t 2],mode:=.pure,body :=
 (oQ [oW 1 (.box 174 3 (.t 0)),oW 2 (.move (oB false))]
 (.seq (oQ [oA 3 0 1,oD 4 3]
 (.cond (.t 4) (oQ [oA 5 1 1,oD 6 5,oW 7 (.arith .eql (.t 6) (oI 0)),oM 8 7,gA 9 2 1 8 true,gD 10 9 8 true,gW 11 (.len 0 (.t 10)) 8 true,gW 12 (.arith .leq (.t 11) (oI 12)) 8 true,oW 13 (.pick (.t 8) (.t 12) (oB false)),oM 2 13]
 .ret) .skip))
 (oQ [oA 14 2 1,oD 15 14,oW 16 (.arith .eql (.t 15) (.c (.str []))),oM 2 16]
 .ret)))}
theorem XU:aB Tryz.prog Tryz.f238 .pure=some OU:=by kernel_rfl
def FZ:aG :=
 (.seq (oQ [oM 13 6,oW 14 (.arith .geq (.t 13) (oI 0))]
 (.cond (.t 14) .skip (.exit 2)))
 (.seq (.block 3 (.region [oM 17 3,oM 18 5,oM 19 6,oW 20 (.arith .mul (oI 8) (.t 19)),oW 21 (.arith .shr (.t 18) (.t 20)),oW 22 (.conv .u8 (.t 21)),oW 23 (.buildSlice 5 1 (.int .u8 0) 1 [(0,.t 22)]),oW 24 (.append 5 1 1 (.t 17) (.t 23)),oM 3 24]))
 (.region [oM 15 6,oW 16 (.arith .sub (.t 15) (oI 1)),oM 6 16])))
def GB:aG :=
 (.region [oW 25 (.arith .add (.t 9) (oI 1)),oM 9 25])
def FY:aG :=
 (oQ [oW 10 (.arith .lss (.t 9) (.t 8))]
 (.seq (.cond (.t 10) .skip (.exit 0))
 (.seq (.block 1 (oQ [oW 11 (.indexAddr 1 (.t 7) (.t 9)),oD 12 11,oM 5 12]
 (oQ [oW 6 (.move (oI 7))]
 (.block 2 (.loop FZ)))))
 GB)))
def GA:aG :=
 (oQ [oM 26 3,oM 2 26]
 .ret)
def OT:aD:={ntmps:=27,results:=[.t 2],mode:=.pure,body :=
 (oQ [oW 2 (.move (.c .nsl))]
 (oQ [oW 3 (.move (.c .nsl))]
 (.seq (oQ [oM 7 0,oW 8 (.len 1 (.t 7)),oW 9 (.move (oI 0))]
 (.block 0 (.loop FY)))
 GA)))}
theorem XT:aB Tryz.prog Tryz.f239 .pure=some OT:=by kernel_rfl
def OS:aD:={ntmps:=12,results:=[.t 2],mode:=.pure,body :=
 (oQ [oW 2 (.move (.c .nsl))]
 (.seq (oQ [oM 3 0,oW 4 (.len 0 (.t 3)),oW 5 (.arith .gtr (.t 4) (oI 255))]
 (.cond (.t 5) (oQ [oW 2 (.move (.c .nsl))]
 .ret) .skip))
 (oQ [oM 6 0,oW 7 (.len 0 (.t 6)),oW 8 (.conv .u8 (.t 7)),oW 9 (.buildSlice 5 1 (.int .u8 0) 1 [(0,.t 8)]),oM 10 0,oW 11 (.appendS 5 1 1 (.t 9) (.t 10)),oM 2 11]
 .ret)))}
theorem XS:aB Tryz.prog Tryz.f240 .pure=some OS:=by kernel_rfl
def OR:aD:={ntmps:=24,results:=[(.cell 2 (some 6))],mode:=.full,body :=
 (oQ [oW 1 (.box 37 6 (.t 0)),oW 2 (.alloc 37 6 (.agg [.int .i64 0,.nsl,.nsl,.nsl,.nsl,.nsl]))]
 (.seq (.draw [oRA 3 1 1,oRD 4 3,nK 5 (.call (oF 148) [.t 4]) .create 0,oRA 6 2 1,oRD 7 6,nK 8 (.call (oF 149) [.t 7]) .create 0,oRA 9 3 1,oRD 10 9,nK 11 (.call (oF 150) [.t 10]) .create 0,oRA 12 4 1,oRD 13 12,nK 14 (.call (oF 151) [.t 13]) .create 0,oRA 15 5 1,oRD 16 15,nK 17 (.call (oF 152) [.t 16]) .write 4,nK 18 (.fieldAddr 1 (.t 1)) .read 1,⟨none,.store 1 (.t 18) (.t 5),none,.write,5,false⟩,nK 19 (.fieldAddr 2 (.t 1)) .read 6,⟨none,.store 1 (.t 19) (.t 8),none,.write,6,false⟩,nK 20 (.fieldAddr 3 (.t 1)) .read 7,⟨none,.store 1 (.t 20) (.t 11),none,.write,7,false⟩,nK 21 (.fieldAddr 4 (.t 1)) .read 8,⟨none,.store 1 (.t 21) (.t 14),none,.write,8,false⟩,nK 22 (.fieldAddr 5 (.t 1)) .read 9,⟨none,.store 1 (.t 22) (.t 17),none,.write,9,false⟩])
 (oQ [oL 23 6 1,oS 6 2 23]
 .ret)))}
theorem XR:aB Tryz.prog Tryz.f245 .full=some OR:=by kernel_rfl
def FX:aD:={ntmps:=95,results:=[.t 6],mode:=.split,body :=
 (oQ [oW 6 (.move (.c .nsl))]
 (oQ [oM 10 0,oM 11 1,oW 12 (.sliceSl 4 (.t 10) (some (.t 11)) none)]
 (oQ [oM 13 2,oW 14 (.len 1 (.t 13)),oM 7 14]
 (.seq (oQ [oM 15 7,oW 16 (.arith .eql (.t 15) (oI 0))]
 (.cond (.t 16) (oQ [oM 17 0,oM 6 17]
 .ret) .skip))
 (oQ [oM 18 0,oW 19 (.len 1 (.t 18)),oM 8 19]
 (.seq (oQ [oM 20 1,oM 21 8,oW 22 (.arith .eql (.t 20) (.t 21))]
 (.cond (.t 22) (oQ [oM 23 0,oM 24 2,oW 25 (.append 86 4 48 (.t 23) (.t 24)),oM 6 25]
 .ret) .skip))
 (.seq (oQ [oM 26 8,oM 27 7,oW 28 (.arith .add (.t 26) (.t 27)),oM 29 0,oW 30 (.cap (.t 29)),oW 31 (.arith .gtr (.t 28) (.t 30))]
 (.cond (.t 31) (oQ [oM 32 0,oM 33 1,oW 34 (.sliceSl 4 (.t 32) none (some (.t 33))),oM 35 8,oM 36 7,oW 37 (.arith .add (.t 35) (.t 36)),oM 38 1,oW 39 (.arith .sub (.t 37) (.t 38)),oW 40 (.appendZ 86 4 48 (.agg [.int .i64 0,.int .i64 0,.nsl,.int .i64 0]) (.t 34) (.t 39)),oM 9 40]
 (oQ [oM 41 9,oM 42 1,oW 43 (.sliceSl 4 (.t 41) (some (.t 42)) none),oM 44 2,oW 45 (.copy 4 (.t 43) (.t 44))]
 (.seq (.draw [oRM 46 9,oRM 47 1,oRM 48 7,oR 49 (.arith .add (.t 47) (.t 48)),oR 50 (.sliceSl 4 (.t 46) (some (.t 49)) none),oRM 51 0,oRM 52 1,oR 53 (.sliceSl 4 (.t 51) (some (.t 52)) none),oW 54 (.copy 4 (.t 50) (.t 53))])
 (oQ [oM 55 9,oM 6 55]
 .ret)))) .skip))
 (oQ [oM 56 0,oM 57 8,oM 58 7,oW 59 (.arith .add (.t 57) (.t 58)),oW 60 (.sliceSl 4 (.t 56) none (some (.t 59))),oM 0 60]
 (.seq (oQ [oM 61 2,oM 62 0,oM 63 1,oM 64 7,oW 65 (.arith .add (.t 63) (.t 64)),oW 66 (.sliceSl 4 (.t 62) (some (.t 65)) none),oW 67 (.call (oF 306) [.t 61,.t 66]),oW 68 (.un .not (.t 67))]
 (.cond (.t 68) (.seq (.draw [oRM 69 0,oRM 70 1,oRM 71 7,oR 72 (.arith .add (.t 70) (.t 71)),oR 73 (.sliceSl 4 (.t 69) (some (.t 72)) none),oRM 74 0,oRM 75 1,oR 76 (.sliceSl 4 (.t 74) (some (.t 75)) none),oW 77 (.copy 4 (.t 73) (.t 76))])
 (oQ [oM 78 0,oM 79 1,oW 80 (.sliceSl 4 (.t 78) (some (.t 79)) none),oM 81 2,oW 82 (.copy 4 (.t 80) (.t 81))]
 (oQ [oM 83 0,oM 6 83]
 .ret))) .skip))
 (oQ [oM 84 0,oM 85 8,oW 86 (.sliceSl 4 (.t 84) (some (.t 85)) none),oM 87 2,oW 88 (.copy 4 (.t 86) (.t 87))]
 (oQ [oM 89 0,oM 90 1,oW 91 (.sliceSl 4 (.t 89) (some (.t 90)) none),oM 92 7,oW 93 (.call (oF 307) [.t 91,.t 92])]
 (oQ [oM 94 0,oM 6 94]
 .ret))))))))))))}
theorem XQ:aB Tryz.prog Tryz.f246 .split=some FX:=by kernel_rfl
def FW:aD:={ntmps:=95,results:=[.t 6],mode:=.split,body :=
 (oQ [oW 6 (.move (.c .nsl))]
 (oQ [oM 10 0,oM 11 1,oW 12 (.sliceSl 2 (.t 10) (some (.t 11)) none)]
 (oQ [oM 13 2,oW 14 (.len 1 (.t 13)),oM 7 14]
 (.seq (oQ [oM 15 7,oW 16 (.arith .eql (.t 15) (oI 0))]
 (.cond (.t 16) (oQ [oM 17 0,oM 6 17]
 .ret) .skip))
 (oQ [oM 18 0,oW 19 (.len 1 (.t 18)),oM 8 19]
 (.seq (oQ [oM 20 1,oM 21 8,oW 22 (.arith .eql (.t 20) (.t 21))]
 (.cond (.t 22) (oQ [oM 23 0,oM 24 2,oW 25 (.append 45 2 16 (.t 23) (.t 24)),oM 6 25]
 .ret) .skip))
 (.seq (oQ [oM 26 8,oM 27 7,oW 28 (.arith .add (.t 26) (.t 27)),oM 29 0,oW 30 (.cap (.t 29)),oW 31 (.arith .gtr (.t 28) (.t 30))]
 (.cond (.t 31) (oQ [oM 32 0,oM 33 1,oW 34 (.sliceSl 2 (.t 32) none (some (.t 33))),oM 35 8,oM 36 7,oW 37 (.arith .add (.t 35) (.t 36)),oM 38 1,oW 39 (.arith .sub (.t 37) (.t 38)),oW 40 (.appendZ 45 2 16 (.agg [.int .i64 0,.int .i64 0]) (.t 34) (.t 39)),oM 9 40]
 (oQ [oM 41 9,oM 42 1,oW 43 (.sliceSl 2 (.t 41) (some (.t 42)) none),oM 44 2,oW 45 (.copy 2 (.t 43) (.t 44))]
 (.seq (.draw [oRM 46 9,oRM 47 1,oRM 48 7,oR 49 (.arith .add (.t 47) (.t 48)),oR 50 (.sliceSl 2 (.t 46) (some (.t 49)) none),oRM 51 0,oRM 52 1,oR 53 (.sliceSl 2 (.t 51) (some (.t 52)) none),oW 54 (.copy 2 (.t 50) (.t 53))])
 (oQ [oM 55 9,oM 6 55]
 .ret)))) .skip))
 (oQ [oM 56 0,oM 57 8,oM 58 7,oW 59 (.arith .add (.t 57) (.t 58)),oW 60 (.sliceSl 2 (.t 56) none (some (.t 59))),oM 0 60]
 (.seq (oQ [oM 61 2,oM 62 0,oM 63 1,oM 64 7,oW 65 (.arith .add (.t 63) (.t 64)),oW 66 (.sliceSl 2 (.t 62) (some (.t 65)) none),oW 67 (.call (oF 308) [.t 61,.t 66]),oW 68 (.un .not (.t 67))]
 (.cond (.t 68) (.seq (.draw [oRM 69 0,oRM 70 1,oRM 71 7,oR 72 (.arith .add (.t 70) (.t 71)),oR 73 (.sliceSl 2 (.t 69) (some (.t 72)) none),oRM 74 0,oRM 75 1,oR 76 (.sliceSl 2 (.t 74) (some (.t 75)) none),oW 77 (.copy 2 (.t 73) (.t 76))])
 (oQ [oM 78 0,oM 79 1,oW 80 (.sliceSl 2 (.t 78) (some (.t 79)) none),oM 81 2,oW 82 (.copy 2 (.t 80) (.t 81))]
 (oQ [oM 83 0,oM 6 83]
 .ret))) .skip))
 (oQ [oM 84 0,oM 85 8,oW 86 (.sliceSl 2 (.t 84) (some (.t 85)) none),oM 87 2,oW 88 (.copy 2 (.t 86) (.t 87))]
 (oQ [oM 89 0,oM 90 1,oW 91 (.sliceSl 2 (.t 89) (some (.t 90)) none),oM 92 7,oW 93 (.call (oF 309) [.t 91,.t 92])]
 (oQ [oM 94 0,oM 6 94]
 .ret))))))))))))}
theorem XP:aB Tryz.prog Tryz.f247 .split=some FW:=by kernel_rfl
def OQ:aD:={ntmps:=21,results:=[.t 4,.t 5],mode:=.pure,body :=
 (oQ [oW 4 (.move (.c .nsl)),oW 5 (.move (oB false))]
 (oQ [oW 9 (.buildSlice 119 5 (.agg [.str [],.int .i64 0,.int .i64 0,.int .i64 0,.str []]) 0 []),oM 10 0,oW 11 (.append 119 5 56 (.t 9) (.t 10)),oM 12 1,oW 13 (.append 119 5 56 (.t 11) (.t 12)),oW 14 (.call (oF 310) [.t 13]),oM 8 14,oX 15 8 0,oX 16 8 1,oM 6 15,oM 7 16]
 (.seq (oQ [oM 17 7,oW 18 (.eqn 4 true (.t 17) (.c .nili))]
 (.cond (.t 18) (oQ [oW 4 (.move (.c .nsl)),oW 5 (.move (oB false))]
 .ret) .skip))
 (oQ [oM 19 6,oW 20 (.call (oF 311) [.t 19]),oM 4 20,oW 5 (.move (oB true))]
 .ret))))}
theorem XO:aB Tryz.prog Tryz.f248 .pure=some OQ:=by kernel_rfl
def OP:aD:={ntmps:=15,results:=[.t 6,.t 7],mode:=.pure,body :=
 (oQ [oW 3 (.box 37 6 (.t 0)),oW 4 (.box 45 2 (.t 1)),oW 5 (.box 45 2 (.t 2)),oW 6 (.move (oI 0)),oW 7 (.move (oB false))]
 (oQ [oA 8 4 3,oD 9 8,oL 10 2 5,oW 11 (.makeFunc 313 [.t 4]),oW 12 (.call (oF 312) [.t 9,.t 10,.t 11]),oX 13 12 0,oX 14 12 1,oM 6 13,oM 7 14]
 .ret))}
theorem XN:aB Tryz.prog Tryz.f249 .pure=some OP:=by kernel_rfl
def FV:aD:={ntmps:=95,results:=[.t 6],mode:=.split,body :=
 (oQ [oW 6 (.move (.c .nsl))]
 (oQ [oM 10 0,oM 11 1,oW 12 (.sliceSl 7 (.t 10) (some (.t 11)) none)]
 (oQ [oM 13 2,oW 14 (.len 1 (.t 13)),oM 7 14]
 (.seq (oQ [oM 15 7,oW 16 (.arith .eql (.t 15) (oI 0))]
 (.cond (.t 16) (oQ [oM 17 0,oM 6 17]
 .ret) .skip))
 (oQ [oM 18 0,oW 19 (.len 1 (.t 18)),oM 8 19]
 (.seq (oQ [oM 20 1,oM 21 8,oW 22 (.arith .eql (.t 20) (.t 21))]
 (.cond (.t 22) (oQ [oM 23 0,oM 24 2,oW 25 (.append 88 7 72 (.t 23) (.t 24)),oM 6 25]
 .ret) .skip))
 (.seq (oQ [oM 26 8,oM 27 7,oW 28 (.arith .add (.t 26) (.t 27)),oM 29 0,oW 30 (.cap (.t 29)),oW 31 (.arith .gtr (.t 28) (.t 30))]
 (.cond (.t 31) (oQ [oM 32 0,oM 33 1,oW 34 (.sliceSl 7 (.t 32) none (some (.t 33))),oM 35 8,oM 36 7,oW 37 (.arith .add (.t 35) (.t 36)),oM 38 1,oW 39 (.arith .sub (.t 37) (.t 38)),oW 40 (.appendZ 88 7 72 (.agg [.int .i64 0,.int .i64 0,.int .i64 0,.int .i64 0,.nsl,.int .i64 0,.bool false]) (.t 34) (.t 39)),oM 9 40]
 (oQ [oM 41 9,oM 42 1,oW 43 (.sliceSl 7 (.t 41) (some (.t 42)) none),oM 44 2,oW 45 (.copy 7 (.t 43) (.t 44))]
 (.seq (.draw [oRM 46 9,oRM 47 1,oRM 48 7,oR 49 (.arith .add (.t 47) (.t 48)),oR 50 (.sliceSl 7 (.t 46) (some (.t 49)) none),oRM 51 0,oRM 52 1,oR 53 (.sliceSl 7 (.t 51) (some (.t 52)) none),oW 54 (.copy 7 (.t 50) (.t 53))])
 (oQ [oM 55 9,oM 6 55]
 .ret)))) .skip))
 (oQ [oM 56 0,oM 57 8,oM 58 7,oW 59 (.arith .add (.t 57) (.t 58)),oW 60 (.sliceSl 7 (.t 56) none (some (.t 59))),oM 0 60]
 (.seq (oQ [oM 61 2,oM 62 0,oM 63 1,oM 64 7,oW 65 (.arith .add (.t 63) (.t 64)),oW 66 (.sliceSl 7 (.t 62) (some (.t 65)) none),oW 67 (.call (oF 314) [.t 61,.t 66]),oW 68 (.un .not (.t 67))]
 (.cond (.t 68) (.seq (.draw [oRM 69 0,oRM 70 1,oRM 71 7,oR 72 (.arith .add (.t 70) (.t 71)),oR 73 (.sliceSl 7 (.t 69) (some (.t 72)) none),oRM 74 0,oRM 75 1,oR 76 (.sliceSl 7 (.t 74) (some (.t 75)) none),oW 77 (.copy 7 (.t 73) (.t 76))])
 (oQ [oM 78 0,oM 79 1,oW 80 (.sliceSl 7 (.t 78) (some (.t 79)) none),oM 81 2,oW 82 (.copy 7 (.t 80) (.t 81))]
 (oQ [oM 83 0,oM 6 83]
 .ret))) .skip))
 (oQ [oM 84 0,oM 85 8,oW 86 (.sliceSl 7 (.t 84) (some (.t 85)) none),oM 87 2,oW 88 (.copy 7 (.t 86) (.t 87))]
 (oQ [oM 89 0,oM 90 1,oW 91 (.sliceSl 7 (.t 89) (some (.t 90)) none),oM 92 7,oW 93 (.call (oF 315) [.t 91,.t 92])]
 (oQ [oM 94 0,oM 6 94]
 .ret))))))))))))}
theorem XM:aB Tryz.prog Tryz.f250 .split=some FV:=by kernel_rfl
def OO:aD:={ntmps:=33,results:=[.t 6],mode:=.full,body :=
 (oQ [oW 6 (.move (.c .nsl))]
 (oQ [oM 8 0,oM 9 1,oM 10 2,oM 11 0,oW 12 (.len 1 (.t 11)),oW 13 (.slice3 (.t 8) (.t 9) (.t 10) (.t 12))]
 (.seq (oQ [oM 14 1,oM 15 2,oW 16 (.arith .eql (.t 14) (.t 15))]
 (.cond (.t 16) (oQ [oM 17 0,oM 6 17]
 .ret) .skip))
 (oQ [oM 18 0,oW 19 (.len 1 (.t 18)),oM 7 19]
 (.seq (.draw [oRM 20 0,oRM 21 1,oR 22 (.sliceSl 4 (.t 20) none (some (.t 21))),oRM 23 0,oRM 24 2,oR 25 (.sliceSl 4 (.t 23) (some (.t 24)) none),oW 26 (.append 86 4 48 (.t 22) (.t 25)),nK 0 (.move (.t 26)) .read 1])
 (oQ [oM 27 0,oM 28 0,oW 29 (.len 1 (.t 28)),oM 30 7,oW 31 (.sliceSl 4 (.t 27) (some (.t 29)) (some (.t 30))),oZ (.clear 4 (.agg [.int .i64 0,.int .i64 0,.nsl,.int .i64 0]) (.t 31))]
 (oQ [oM 32 0,oM 6 32]
 .ret)))))))}
theorem XL:aB Tryz.prog Tryz.f251 .full=some OO:=by kernel_rfl
def FT:aG :=
 (.seq (oQ [oM 16 6,oM 17 0,oW 18 (.len 1 (.t 17)),oW 19 (.arith .lss (.t 16) (.t 18))]
 (.cond (.t 19) .skip (.exit 0)))
 (.seq (.block 1 (oQ [oM 22 0,oM 23 6,oW 24 (.indexAddr 7 (.t 22) (.t 23)),oL 25 7 24,oW 7 (.alloc 88 7 (.agg [.int .i64 0,.int .i64 0,.int .i64 0,.int .i64 0,.nsl,.int .i64 0,.bool false])),oS 7 7 25]
 (oQ [oM 26 1,oL 27 7 7,oW 28 (.call (.t 26) [.t 27]),oW 29 (.un .not (.t 28))]
 (.cond (.t 29) (oQ [oM 30 0,oM 31 5,oL 32 7 7,oW 33 (.indexAddr 7 (.t 30) (.t 31)),oS 7 33 32]
 (.region [oM 34 5,oW 35 (.arith .add (.t 34) (oI 1)),oM 5 35])) .skip))))
 (.region [oM 20 6,oW 21 (.arith .add (.t 20) (oI 1)),oM 6 21])))
def FU:aG :=
 (oQ [oM 36 0,oM 37 5,oW 38 (.sliceSl 7 (.t 36) (some (.t 37)) none),oZ (.clear 7 (.agg [.int .i64 0,.int .i64 0,.int .i64 0,.int .i64 0,.nsl,.int .i64 0,.bool false]) (.t 38))]
 (oQ [oM 39 0,oM 40 5,oW 41 (.sliceSl 7 (.t 39) none (some (.t 40))),oM 4 41]
 .ret))
def ON:aD:={ntmps:=42,results:=[.t 4],mode:=.full,body :=
 (oQ [oW 4 (.move (.c .nsl))]
 (oQ [oM 8 0,oM 9 1,oW 10 (.call (oF 202) [.t 8,.t 9]),oM 5 10]
 (.seq (oQ [oM 11 5,oW 12 (.arith .eql (.t 11) (oI (-1)))]
 (.cond (.t 12) (oQ [oM 13 0,oM 4 13]
 .ret) .skip))
 (.seq (oQ [oM 14 5,oW 15 (.arith .add (.t 14) (oI 1)),oM 6 15]
 (.block 0 (.loop FT)))
 FU))))}
theorem XK:aB Tryz.prog Tryz.f252 .full=some ON:=by kernel_rfl
def OM:aD:={ntmps:=8,results:=[.t 3],mode:=.pure,body :=
 (oQ [oW 2 (.box 88 7 (.t 0)),oW 3 (.move (oB false))]
 (oQ [oA 4 0 2,oL 5 2 4,oL 6 2 1,oW 7 (.eqa false [1,1] (.t 5) (.t 6)),oM 3 7]
 .ret))}
theorem XJ:aB Tryz.prog Tryz.f253 .pure=some OM:=by kernel_rfl
def FR:aG :=
 (oQ [oW 59 (.arith .lss (.t 58) (.t 57))]
 (.seq (.cond (.t 59) .skip (.exit 0))
 (.seq (.block 1 (oQ [oM 60 58,oW 61 (.indexAddr 7 (.t 56) (.t 58)),oL 62 7 61,oW 14 (.alloc 88 7 (.agg [.int .i64 0,.int .i64 0,.int .i64 0,.int .i64 0,.nsl,.int .i64 0,.bool false])),oM 13 60,oS 7 14 62]
 (oQ [oA 63 0 14,oL 64 2 63,oL 65 2 5,oW 66 (.eqa false [1,1] (.t 64) (.t 65)),oM 67 66,gA 68 6 14 67 true,gD 69 68 67 true,gW 70 (.un .not (.t 69)) 67 true,oW 71 (.pick (.t 67) (.t 70) (oB false)),oM 72 71,gL 73 6 4 72 true,gL 74 2 5 72 true,gA 75 4 14 72 true,gD 76 75 72 true,gW 77 (.call (oF 118) [.t 73,.t 74,.t 76]) 72 true,gW 78 (.un .not (.t 77)) 72 true,oW 79 (.pick (.t 72) (.t 78) (oB false))]
 (.cond (.t 79) (oQ [oA 80 4 4,oD 81 80,oM 82 13,oW 83 (.indexAddr 7 (.t 81) (.t 82)),oA 84 6 83,oZ (.store 1 (.t 84) (oB true))]
 (.region [oM 85 9,oA 86 4 4,oD 87 86,oM 88 13,oW 89 (.indexAddr 7 (.t 87) (.t 88)),oL 90 7 89,oW 91 (.buildSlice 88 7 (.agg [.int .i64 0,.int .i64 0,.int .i64 0,.int .i64 0,.nsl,.int .i64 0,.bool false]) 1 [(0,.t 90)]),oW 92 (.append 88 7 72 (.t 85) (.t 91)),oM 9 92])) .skip))))
 (.region [oW 93 (.arith .add (.t 58) (oI 1)),oM 58 93]))))
def FS:aG :=
 (oQ [oL 94 6 4,oM 95 9,oS 6 8 94,oM 9 95,oW 10 (.move (oB true))]
 .ret)
def OL:aD:={ntmps:=96,results:=[(.cell 8 (some 6)),.t 9,.t 10],mode:=.frz,body :=
 (oQ [oW 4 (.box 37 6 (.t 0)),oW 5 (.box 45 2 (.t 1)),oW 6 (.box 45 2 (.t 2)),oW 8 (.alloc 37 6 (.agg [.int .i64 0,.nsl,.nsl,.nsl,.nsl,.nsl])),oW 9 (.move (.c .nsl)),oW 10 (.move (oB false))]
 (oQ [oA 15 4 4,oD 16 15,oW 17 (.call (oF 151) [.t 16]),oA 18 4 4,oS 1 18 17]
 (oQ [oL 20 6 4,oL 21 2 5,oL 22 2 6,oW 23 (.call (oF 249) [.t 20,.t 21,.t 22]),oM 19 23,oX 24 19 0,oX 25 19 1,oM 11 24,oM 12 25]
 (.seq (oQ [oM 26 12,oW 27 (.un .not (.t 26)),oM 28 27,gA 29 4 4 28 false,gD 30 29 28 false,gM 31 11 28 false,gW 32 (.indexAddr 7 (.t 30) (.t 31)) 28 false,gA 33 5 32 28 false,gD 34 33 28 false,gM 35 3 28 false,gW 36 (.arith .neq (.t 34) (.t 35)) 28 false,oW 37 (.pick (.t 28) (oB true) (.t 36))]
 (.cond (.t 37) (oQ [oL 38 6 4,oS 6 8 38,oW 9 (.move (.c .nsl)),oW 10 (.move (oB false))]
 .ret) .skip))
 (oQ [oA 39 4 4,oD 40 39,oM 41 11,oW 42 (.indexAddr 7 (.t 40) (.t 41)),oA 43 6 42,oD 44 43,oM 10 44]
 (oQ [oA 45 4 4,oD 46 45,oM 47 11,oM 48 11,oW 49 (.arith .add (.t 48) (oI 1)),oW 50 (.call (oF 316) [.t 46,.t 47,.t 49]),oA 51 4 4,oS 1 51 50]
 (.seq (oQ [oM 52 10,oW 53 (.un .not (.t 52))]
 (.cond (.t 53) (oQ [oL 54 6 4,oS 6 8 54,oW 9 (.move (.c .nsl)),oW 10 (.move (oB false))]
 .ret) .skip))
 (.seq (oQ [oA 55 4 4,oD 56 55,oW 57 (.len 1 (.t 56)),oW 58 (.move (oI 0))]
 (.block 0 (.loop FR)))
 FS))))))))}
theorem XI:aB Tryz.prog Tryz.f254 .frz=some OL:=by kernel_rfl
def FP:aG :=
 (oQ [oW 12 (.arith .lss (.t 11) (.t 10))]
 (.seq (.cond (.t 12) .skip (.exit 0))
 (.seq (.block 1 (oQ [oW 13 (.indexAddr 5 (.t 9) (.t 11)),oL 14 5 13,oW 6 (.alloc 119 5 (.agg [.str [],.int .i64 0,.int .i64 0,.int .i64 0,.str []])),oS 5 6 14]
 (oQ [oM 16 1,oA 17 0 6,oD 18 17,oW 19 (.call (oF 317) [.t 16,.t 18]),oM 15 19,oX 20 15 0,oX 21 15 1,oW 7 (.alloc 174 3 (.agg [.bool false,.int .i64 0,.str []])),oS 3 7 20,oM 8 21]
 (oQ [oM 22 8,oW 23 (.un .not (.t 22)),oM 24 23,gL 25 5 6 24 false,gL 26 3 7 24 false,gW 27 (.call (oF 318) [.t 25,.t 26]) 24 false,gW 28 (.un .not (.t 27)) 24 false,oW 29 (.pick (.t 24) (oB true) (.t 28))]
 (.cond (.t 29) (oQ [oW 4 (.move (oB false))]
 .ret) .skip)))))
 (.region [oW 30 (.arith .add (.t 11) (oI 1)),oM 11 30]))))
def FQ:aG :=
 (oQ [oW 4 (.move (oB true))]
 .ret)
def OK:aD:={ntmps:=31,results:=[.t 4],mode:=.pure,body :=
 (oQ [oW 4 (.move (oB false))]
 (.seq (oQ [oM 9 0,oW 10 (.len 1 (.t 9)),oW 11 (.move (oI 0))]
 (.block 0 (.loop FP)))
 FQ))}
theorem XH:aB Tryz.prog Tryz.f255 .pure=some OK:=by kernel_rfl
def OJ:aD:={ntmps:=7,results:=[.t 2],mode:=.full,body :=
 (oQ [oW 2 (.move (.c .nsl))]
 (oQ [oM 3 0,oW 4 (.call (oF 178) [.t 3])]
 (oQ [oM 5 0,oW 6 (.call (oF 179) [.t 5]),oM 2 6]
 .ret)))}
theorem XG:aB Tryz.prog Tryz.f256 .full=some OJ:=by kernel_rfl
def OI:aD:={ntmps:=38,results:=[.t 4],mode:=.full,body :=
 (oQ [oW 4 (.move (.c .nsl))]
 (.seq (oQ [oM 6 0,oW 7 (.nilCheck (.t 6)),oA 8 1 7,oD 9 8,oM 10 9,gM 11 1 10 false,gM 12 0 10 false,gW 13 (.nilCheck (.t 12)) 10 false,gA 14 0 13 10 false,gD 15 14 10 false,gW 16 (.len 1 (.t 15)) 10 false,gW 17 (.arith .gtr (.t 11) (.t 16)) 10 false,oW 18 (.pick (.t 10) (oB true) (.t 17))]
 (.cond (.t 18) (oQ [oM 19 0,oW 20 (.nilCheck (.t 19)),oA 21 1 20,oZ (.store 1 (.t 21) (oB true))]
 (oQ [oW 4 (.move (.c .nsl))]
 .ret)) .skip))
 (oQ [oM 22 0,oW 23 (.nilCheck (.t 22)),oA 24 0 23,oD 25 24,oM 26 1,oW 27 (.sliceSl 1 (.t 25) none (some (.t 26))),oM 5 27]
 (oQ [oM 28 0,oM 29 0,oW 30 (.nilCheck (.t 29)),oA 31 0 30,oD 32 31,oM 33 1,oW 34 (.sliceSl 1 (.t 32) (some (.t 33)) none),oW 35 (.nilCheck (.t 28)),oA 36 0 35,oS 1 36 34]
 (oQ [oM 37 5,oM 4 37]
 .ret)))))}
theorem XF:aB Tryz.prog Tryz.f258 .full=some OI:=by kernel_rfl
def FN:aG :=
 (oQ [oW 10 (.arith .lss (.t 9) (.t 8))]
 (.seq (.cond (.t 10) .skip (.exit 0))
 (.seq (.block 1 (oQ [oW 11 (.indexAddr 1 (.t 7) (.t 9)),oD 12 11,oM 5 12]
 (.region [oM 13 3,oW 14 (.arith .shl (.t 13) (.c (.int .u64 8))),oM 15 5,oW 16 (.conv .u64 (.t 15)),oW 17 (.arith .or (.t 14) (.t 16)),oM 3 17])))
 (.region [oW 18 (.arith .add (.t 9) (oI 1)),oM 9 18]))))
def FO:aG :=
 (oQ [oM 19 3,oW 20 (.conv .i64 (.t 19)),oM 2 20]
 .ret)
def OH:aD:={ntmps:=21,results:=[.t 2],mode:=.full,body :=
 (oQ [oW 2 (.move (oI 0))]
 (oQ [oW 3 (.move (.c (.int .u64 0)))]
 (.seq (oQ [oM 6 0,oW 7 (.call (oF 258) [.t 6,oI 8]),oW 8 (.len 1 (.t 7)),oW 9 (.move (oI 0))]
 (.block 0 (.loop FN)))
 FO)))}
theorem XE:aB Tryz.prog Tryz.f259 .full=some OH:=by kernel_rfl
def OG:aD:={ntmps:=9,results:=[.t 2],mode:=.full,body :=
 (oQ [oW 2 (.move (.c (.str [])))]
 (oQ [oM 3 0,oM 4 0,oW 5 (.call (oF 193) [.t 4]),oW 6 (.conv .i64 (.t 5)),oW 7 (.call (oF 258) [.t 3,.t 6]),oW 8 (.bytesStr (.t 7)),oM 2 8]
 .ret))}
theorem XD:aB Tryz.prog Tryz.f260 .full=some OG:=by kernel_rfl
def FL:aG :=
 (.seq (oQ [oM 15 9,oM 16 10,oW 17 (.arith .lss (.t 15) (.t 16))]
 (.cond (.t 17) .skip (.exit 0)))
 (.block 1 (oQ [oM 18 9,oM 19 10,oW 20 (.arith .add (.t 18) (.t 19)),oW 21 (.conv .u64 (.t 20)),oW 22 (.arith .shr (.t 21) (.c (.int .u64 1))),oW 23 (.conv .i64 (.t 22)),oM 11 23]
 (.seq (.draw [oRM 25 0,oRM 26 11,oR 27 (.indexAddr 2 (.t 25) (.t 26)),oRL 28 2 27,oRL 29 2 4,oRM 24 2,oW 30 (.call (.t 24) [.t 28,.t 29]),nK 31 (.arith .lss (.t 30) (oI 0)) .read 1])
 (.cond (.t 31) (.region [oM 32 11,oW 33 (.arith .add (.t 32) (oI 1)),oM 9 33]) (.region [oM 34 11,oM 10 34]))))))
def FM:aG :=
 (.seq (.draw [oRM 36 9,oRM 37 8,oR 38 (.arith .lss (.t 36) (.t 37)),oRM 39 38,rM 41 0 39 true,rM 42 9 39 true,rW 43 (.indexAddr 2 (.t 41) (.t 42)) 39 true,rL 44 2 43 39 true,rL 45 2 4 39 true,rM 40 2 39 true,gW 46 (.call (.t 40) [.t 44,.t 45]) 39 true,oRM 35 9,⟨(some 47),.arith .eql (.t 46) (oI 0),(some (39,true)),.read,1,false⟩,nK 48 (.pick (.t 39) (.t 47) (oB false)) .read 1,nK 6 (.move (.t 35)) .read 1,nK 7 (.move (.t 48)) .read 1])
 .ret)
def OF:aD:={ntmps:=49,results:=[.t 6,.t 7],mode:=.pure,body :=
 (oQ [oW 4 (.box 45 2 (.t 1)),oW 6 (.move (oI 0)),oW 7 (.move (oB false))]
 (oQ [oM 12 0,oW 13 (.len 1 (.t 12)),oM 8 13]
 (oQ [oM 14 8,oW 9 (.move (oI 0)),oM 10 14]
 (.seq (.block 0 (.loop FL))
 FM))))}
theorem XC:aB Tryz.prog Tryz.f261 .pure=some OF:=by kernel_rfl
def FJ:aG :=
 (oQ [oW 9 (.arith .lss (.t 8) (.t 7))]
 (.seq (.cond (.t 9) .skip (.exit 0))
 (.seq (.block 1 (oQ [oM 10 8,oM 5 10]
 (oQ [oM 11 1,oM 12 0,oM 13 5,oW 14 (.indexAddr 1 (.t 12) (.t 13)),oD 15 14,oW 16 (.arith .eql (.t 11) (.t 15))]
 (.cond (.t 16) (oQ [oM 17 5,oM 4 17]
 .ret) .skip))))
 (.region [oW 18 (.arith .add (.t 8) (oI 1)),oM 8 18]))))
def FK:aG :=
 (oQ [oW 4 (.move (oI (-1)))]
 .ret)
def OE:aD:={ntmps:=19,results:=[.t 4],mode:=.pure,body :=
 (oQ [oW 4 (.move (oI 0))]
 (.seq (oQ [oM 6 0,oW 7 (.len 1 (.t 6)),oW 8 (.move (oI 0))]
 (.block 0 (.loop FJ)))
 FK))}
theorem XB:aB Tryz.prog Tryz.f262 .pure=some OE:=by kernel_rfl
def OD:aD:={ntmps:=45,results:=[.t 4],mode:=.pure,body :=
 (oQ [oW 2 (.box 119 5 (.t 0)),oW 3 (.box 119 5 (.t 1)),oW 4 (.move (oB false))]
 (.seq (oQ [oA 5 1 3,oD 6 5]
 (.block 0 (oQ [oW 8 (.arith .eql (.t 6) (oI 1)),oM 7 8]
 (.cond (.t 7) (oQ [oA 9 1 2,oD 10 9,oW 11 (.arith .eql (.t 10) (oI 1)),oM 12 11,gA 13 2 2 12 true,gD 14 13 12 true,gA 15 2 3 12 true,gD 16 15 12 true,gW 17 (.arith .leq (.t 14) (.t 16)) 12 true,oW 18 (.pick (.t 12) (.t 17) (oB false)),oM 19 18,gA 20 3 3 19 true,gD 21 20 19 true,gA 22 3 2 19 true,gD 23 22 19 true,gW 24 (.arith .leq (.t 21) (.t 23)) 19 true,oW 25 (.pick (.t 19) (.t 24) (oB false)),oM 4 25]
 .ret) (oQ [oW 27 (.arith .eql (.t 6) (oI 3)),oM 26 27]
 (.cond (.t 26) (oQ [oA 28 1 2,oD 29 28,oW 30 (.arith .eql (.t 29) (oI 3)),oM 31 30,gA 32 4 3 31 true,gD 33 32 31 true,gA 34 4 2 31 true,gD 35 34 31 true,gW 36 (.call (oF 320) [.t 33,.t 35]) 31 true,oW 37 (.pick (.t 31) (.t 36) (oB false)),oM 4 37]
 .ret) (oQ [oW 39 (.arith .eql (.t 6) (oI 2)),oM 38 39]
 (.cond (.t 38) (.seq (.draw [oRL 40 5 2,oRA 41 4 3,oRD 42 41,nK 43 (.call (oF 321) [.t 42]) .create 0,nK 44 (.call (oF 318) [.t 40,.t 43]) .write 1,nK 4 (.move (.t 44)) .read 2])
 .ret) .skip))))))))
 (oQ [oW 4 (.move (oB false))]
 .ret)))}
theorem XA:aB Tryz.prog Tryz.f263 .pure=some OD:=by kernel_rfl
def OC:aD:={ntmps:=12,results:=[.t 6],mode:=.pure,body :=
 (oQ [oW 3 (.box 79 2 (.t 0)),oW 6 (.move (oB false))]
 (oQ [oL 7 2 3,oM 8 1,oW 9 (.call (oF 137) [.t 7,.t 8]),oM 10 2,oW 11 (.call (oF 200) [.t 9,.t 10]),oM 6 11]
 .ret))}
theorem WZ:aB Tryz.prog Tryz.f265 .pure=some OC:=by kernel_rfl
def FI:aG :=
 (oQ [oW 9 (.arith .lss (.t 8) (.t 7))]
 (.seq (.cond (.t 9) .skip (.exit 0))
 (.seq (.block 1 (oQ [oW 10 (.indexAddr 4 (.t 6) (.t 8)),oL 11 4 10,oW 5 (.alloc 171 4 (.agg [.int .i64 0,.int .i64 0,.int .i64 0,.nsl])),oS 4 5 11]
 (.seq (.draw [oRM 12 0,oR 13 (.nilCheck (.t 12)),oRA 14 0 13,oRD 15 14,oRA 16 0 5,oRD 17 16,oRM 18 0,oR 19 (.nilCheck (.t 18)),oRA 20 0 19,oRD 21 20,oRA 22 0 5,oRD 23 22,oR 24 (.lookup (.prim 1) .nsl false (.t 21) (.t 23)),oRL 25 4 5,nK 26 (.buildSlice 171 4 (.agg [.int .i64 0,.int .i64 0,.int .i64 0,.nsl]) 1 [(0,.t 25)]) .create 0,nK 27 (.append 171 4 48 (.t 24) (.t 26)) .create 0,⟨none,.mapUpdate (.prim 1) (.t 15) (.t 17) (.t 27),none,.write,2,false⟩])
 (.draw [oRM 29 0,oR 30 (.nilCheck (.t 29)),oRA 31 1 30,oRD 32 31,oRL 33 4 5,nK 34 (.buildSlice 171 4 (.agg [.int .i64 0,.int .i64 0,.int .i64 0,.nsl]) 1 [(0,.t 33)]) .create 0,nK 35 (.append 171 4 48 (.t 32) (.t 34)) .write 1,oRM 28 0,nK 36 (.nilCheck (.t 28)) .read 2,nK 37 (.fieldAddr 1 (.t 36)) .read 2,⟨none,.store 1 (.t 37) (.t 35),none,.write,2,false⟩]))))
 (.region [oW 38 (.arith .add (.t 8) (oI 1)),oM 8 38]))))
def OB:aD:={ntmps:=39,results:=[],mode:=.full,body :=
 (oQ [oM 6 1,oW 7 (.len 1 (.t 6)),oW 8 (.move (oI 0))]
 (.block 0 (.loop FI)))}
theorem WY:aB Tryz.prog Tryz.f273 .full=some OB:=by kernel_rfl
def OA:aD:={ntmps:=16,results:=[.t 4],mode:=.full,body :=
 (oQ [oW 4 (.move (oB false))]
 (oQ [oM 5 1,oW 6 (.arith .geq (.t 5) (oI 0)),oM 7 6,gM 8 1 7 true,gM 9 0 7 true,gW 10 (.nilCheck (.t 9)) 7 true,gA 11 1 10 7 true,gD 12 11 7 true,gW 13 (.len 1 (.t 12)) 7 true,gW 14 (.arith .lss (.t 8) (.t 13)) 7 true,oW 15 (.pick (.t 7) (.t 14) (oB false)),oM 4 15]
 .ret))}
theorem WX:aB Tryz.prog Tryz.f274 .full=some OA:=by kernel_rfl
def NZ:aD:={ntmps:=15,results:=[.t 4],mode:=.full,body :=
 (oQ [oW 4 (.move (.c .nsl))]
 (oQ [oM 6 0,oM 7 1,oW 8 (.call (oF 325) [.t 6,.t 7]),oM 5 8]
 (oQ [oM 9 0,oW 10 (.nilCheck (.t 9)),oA 11 0 10,oD 12 11,oM 13 1,oZ (.delete (.prim 1) (.t 12) (.t 13))]
 (oQ [oM 14 5,oM 4 14]
 .ret))))}
theorem WW:aB Tryz.prog Tryz.f275 .full=some NZ:=by kernel_rfl
def NY:aD:={ntmps:=53,results:=[.t 4,.t 5],mode:=.pure,body :=
 (oQ [oW 2 (.box 371 6 (.t 0)),oW 3 (.box 95 9 (.t 1)),oW 4 (.move (.c .nsl)),oW 5 (.move (.c .nili))]
 (oQ [oA 9 1 2,oD 10 9,oM 6 10]
 (.seq (oQ [oA 11 0 3,oD 12 11]
 (.block 0 (.seq (.block 4 (.seq (.block 3 (.seq (.block 2 (.seq (.block 1 (.seq (.seq (.seq (oQ [oW 14 (.arith .eql (.t 12) (oI 2)),oM 13 14]
 (.cond (.t 13) .skip (.region [oW 15 (.arith .eql (.t 12) (oI 4)),oM 13 15])))
 (.cond (.t 13) (.exit 1) .skip))
 (.seq (oQ [oW 17 (.arith .eql (.t 12) (oI 5)),oM 16 17]
 (.cond (.t 16) (.exit 2) .skip))
 (.seq (oQ [oW 19 (.arith .eql (.t 12) (oI 3)),oM 18 19]
 (.cond (.t 18) (.exit 3) .skip))
 (oQ [oW 21 (.arith .eql (.t 12) (oI 6)),oM 20 21]
 (.cond (.t 20) (.exit 4) .skip)))))
 (.exit 0)))
 (.seq (oQ [oA 22 6 3,oD 23 22,oW 24 (.call (oF 310) [.t 23]),oX 25 24 0,oX 26 24 1,oM 4 25,oM 5 26]
 .ret)
 (.exit 0))))
 (.region [oA 27 2 2,oD 28 27,oM 6 28])))
 (.seq (oQ [oM 30 6,oA 31 2 3,oD 32 31,oW 33 (.call (oF 326) [.t 30,.t 32]),oM 29 33,oX 34 29 0,oX 35 29 1,oM 7 34,oM 8 35]
 (oQ [oM 36 8,oW 37 (.un .not (.t 36))]
 (.cond (.t 37) (oQ [oW 38 (.makeIface 57 (oI 4)),oW 4 (.move (.c .nsl)),oM 5 38]
 .ret) .skip)))
 (.exit 0))))
 (.seq (.block 5 (oQ [oA 40 7 3,oD 41 40,oW 42 (.call (oF 169) [.t 41]),oW 43 (.un .not (.t 42)),oM 39 43]
 (.cond (.t 39) (oQ [oW 44 (.makeIface 57 (oI 1)),oW 4 (.move (.c .nsl)),oM 5 44]
 .ret) (oQ [oL 46 6 2,oA 47 7 3,oD 48 47,oW 49 (.call (oF 327) [.t 46,.t 48]),oW 50 (.len 1 (.t 49)),oW 51 (.arith .eql (.t 50) (oI 0)),oM 45 51]
 (.cond (.t 45) (oQ [oW 52 (.makeIface 57 (oI 6)),oW 4 (.move (.c .nsl)),oM 5 52]
 .ret) .skip)))))
 (.exit 0)))))
 (oQ [oW 4 (.move (.c .nsl)),oW 5 (.move (.c .nili))]
 .ret))))}
theorem WV:aB Tryz.prog Tryz.f276 .pure=some NY:=by kernel_rfl
def NX:aD:={ntmps:=232,results:=[(.cell 6 (some 7)),.t 7],mode:=.full,body :=
 (oQ [oW 4 (.box 95 9 (.t 1)),oW 6 (.alloc 92 7 (.agg [.int .i64 0,.int .i64 0,.int .i64 0,.int .i64 0,.int .i64 0,.int .i64 0,.nsl])),oW 7 (.move (.c .nili))]
 (.seq (.draw [oRM 17 0,oR 18 (.nilCheck (.t 17)),oRA 19 1 18,oRD 20 19,oRA 21 1 4,oRD 22 21,oR 23 (.indexAddr 6 (.t 20) (.t 22)),oRM 8 23])
 (oQ [oW 24 (.makeFunc 328 [.t 4]),oM 9 24]
 (oQ [oM 25 0,oW 26 (.nilCheck (.t 25)),oA 27 3 26,oD 28 27,oW 29 (.arith .add (.t 28) (oI 1)),oW 30 (.nilCheck (.t 25)),oA 31 3 30,oS 1 31 29]
 (.seq (oQ [oA 32 0 4,oD 33 32]
 (.block 0 (oQ [oW 35 (.arith .eql (.t 33) (oI 2)),oM 34 35]
 (.cond (.t 34) (oQ [oM 36 9,oM 37 8,oW 38 (.nilCheck (.t 37)),oA 39 3 38,oD 40 39,oW 41 (.call (.t 36) [.t 40]),oW 10 (.alloc 45 2 (.agg [.int .i64 0,.int .i64 0])),oS 2 10 41]
 (.seq (.draw [oRM 44 8,oR 45 (.nilCheck (.t 44)),oRA 46 1 45,oRD 47 46,oRA 48 1 10,oRD 49 48,oRM 50 2,oR 51 (.build [.int .i64 0,.nsl] [(0,1,.t 49),(1,1,.t 50)]),nK 52 (.buildSlice 420 2 (.agg [.int .i64 0,.nsl]) 1 [(0,.t 51)]) .create 0,nK 53 (.append 420 2 32 (.t 47) (.t 52)) .create 0,oRM 54 8,oR 55 (.nilCheck (.t 54)),oRA 56 3 55,oRD 57 56,oRM 42 8,nK 59 (.nilCheck (.t 42)) .read 2,nK 60 (.fieldAddr 1 (.t 59)) .read 2,⟨none,.store 1 (.t 60) (.t 53),none,.write,2,false⟩,oRM 43 8,oR 58 (.arith .add (.t 57) (oI 1)),nK 61 (.nilCheck (.t 43)) .read 3,nK 62 (.fieldAddr 3 (.t 61)) .read 3,⟨none,.store 1 (.t 62) (.t 58),none,.write,3,false⟩])
 (.seq (.draw [oRL 63 2 10,oRM 65 0,oR 66 (.nilCheck (.t 65)),oRA 67 0 66,oRD 68 67,oRM 69 8,oR 70 (.nilCheck (.t 69)),oRA 71 0 70,oRD 72 71,oRL 73 2 10,oRM 74 2,nK 75 (.call (oF 44) [.t 68,.t 72,.t 73,.t 74]) .create 0,oR 64 (.build [.int .i64 0,.int .i64 0,.int .i64 0,.int .i64 0,.int .i64 0,.int .i64 0,.nsl] [(2,2,.t 63)]),⟨none,.store 7 (.t 6) (.t 64),none,.write,1,false⟩,nK 7 (.move (.t 75)) .read 2])
 .ret))) (oQ [oW 77 (.arith .eql (.t 33) (oI 4)),oM 76 77]
 (.cond (.t 76) (oQ [oM 78 9,oM 79 8,oW 80 (.nilCheck (.t 79)),oA 81 4 80,oD 82 81,oW 83 (.call (.t 78) [.t 82]),oW 11 (.alloc 45 2 (.agg [.int .i64 0,.int .i64 0])),oS 2 11 83]
 (.seq (.draw [oRM 86 8,oR 87 (.nilCheck (.t 86)),oRA 88 2 87,oRD 89 88,oRA 90 1 11,oRD 91 90,oRM 92 2,oR 93 (.build [.int .i64 0,.nsl] [(0,1,.t 91),(1,1,.t 92)]),nK 94 (.buildSlice 420 2 (.agg [.int .i64 0,.nsl]) 1 [(0,.t 93)]) .create 0,nK 95 (.append 420 2 32 (.t 89) (.t 94)) .create 0,oRM 96 8,oR 97 (.nilCheck (.t 96)),oRA 98 4 97,oRD 99 98,oRM 84 8,nK 101 (.nilCheck (.t 84)) .read 2,nK 102 (.fieldAddr 2 (.t 101)) .read 2,⟨none,.store 1 (.t 102) (.t 95),none,.write,2,false⟩,oRM 85 8,oR 100 (.arith .add (.t 99) (oI 1)),nK 103 (.nilCheck (.t 85)) .read 3,nK 104 (.fieldAddr 4 (.t 103)) .read 3,⟨none,.store 1 (.t 104) (.t 100),none,.write,3,false⟩])
 (.seq (.draw [oRL 105 2 11,oRM 107 0,oR 108 (.nilCheck (.t 107)),oRA 109 0 108,oRD 110 109,oRM 111 8,oR 112 (.nilCheck (.t 111)),oRA 113 0 112,oRD 114 113,oRL 115 2 11,oRM 116 2,nK 117 (.call (oF 55) [.t 110,.t 114,.t 115,.t 116]) .create 0,oR 106 (.build [.int .i64 0,.int .i64 0,.int .i64 0,.int .i64 0,.int .i64 0,.int .i64 0,.nsl] [(2,2,.t 105)]),⟨none,.store 7 (.t 6) (.t 106),none,.write,1,false⟩,nK 7 (.move (.t 117)) .read 2])
 .ret))) (oQ [oW 119 (.arith .eql (.t 33) (oI 3)),oM 118 119]
 (.cond (.t 118) (.seq (.draw [oRM 121 8,oR 122 (.nilCheck (.t 121)),oRA 123 1 122,oRD 124 123,oRA 125 2 4,oRD 126 125,oW 127 (.call (oF 329) [.t 124,.t 126]),oRM 120 8,nK 128 (.nilCheck (.t 120)) .read 1,nK 129 (.fieldAddr 1 (.t 128)) .read 1,⟨none,.store 1 (.t 129) (.t 127),none,.write,1,false⟩])
 (.seq (.draw [oRM 131 0,oR 132 (.nilCheck (.t 131)),oRA 133 0 132,oRD 134 133,oRM 135 8,oR 136 (.nilCheck (.t 135)),oRA 137 0 136,oRD 138 137,oRA 140 2 4,oRD 141 140,oRM 139 9,nK 142 (.call (.t 139) [.t 141]) .create 0,nK 143 (.call (oF 330) [.t 134,.t 138,.t 142]) .write 1,oR 130 (.build [.int .i64 0,.int .i64 0,.int .i64 0,.int .i64 0,.int .i64 0,.int .i64 0,.nsl] []),⟨none,.store 7 (.t 6) (.t 130),none,.write,2,false⟩,nK 7 (.move (.t 143)) .read 3])
 .ret)) (oQ [oW 145 (.arith .eql (.t 33) (oI 5)),oM 144 145]
 (.cond (.t 144) (.seq (.draw [oRM 147 8,oR 148 (.nilCheck (.t 147)),oRA 149 2 148,oRD 150 149,oRA 151 2 4,oRD 152 151,oW 153 (.call (oF 329) [.t 150,.t 152]),oRM 146 8,nK 154 (.nilCheck (.t 146)) .read 1,nK 155 (.fieldAddr 2 (.t 154)) .read 1,⟨none,.store 1 (.t 155) (.t 153),none,.write,1,false⟩])
 (.seq (.draw [oRM 157 0,oR 158 (.nilCheck (.t 157)),oRA 159 0 158,oRD 160 159,oRM 161 8,oR 162 (.nilCheck (.t 161)),oRA 163 0 162,oRD 164 163,oRA 166 2 4,oRD 167 166,oRM 165 9,nK 168 (.call (.t 165) [.t 167]) .create 0,nK 169 (.call (oF 331) [.t 160,.t 164,.t 168]) .write 1,oR 156 (.build [.int .i64 0,.int .i64 0,.int .i64 0,.int .i64 0,.int .i64 0,.int .i64 0,.nsl] []),⟨none,.store 7 (.t 6) (.t 156),none,.write,2,false⟩,nK 7 (.move (.t 169)) .read 3])
 .ret)) .skip))))))))))
 (.seq (.draw [oRM 170 8,oR 171 (.nilCheck (.t 170)),oRL 172 6 171,oRA 173 7 4,oRD 174 173,oW 175 (.call (oF 327) [.t 172,.t 174]),nK 12 (.move (.t 175)) .read 1])
 (.seq (.draw [oRA 178 3 4,oRD 179 178,oRM 177 12,oRM 180 12,oR 181 (.len 1 (.t 180)),oR 182 (.arith .rem (.t 179) (.t 181)),oRM 183 12,oR 184 (.len 1 (.t 183)),oR 185 (.arith .add (.t 182) (.t 184)),oRM 186 12,oR 187 (.len 1 (.t 186)),oR 188 (.arith .rem (.t 185) (.t 187)),oR 189 (.indexAddr 2 (.t 177) (.t 188)),oRA 190 0 189,oRD 191 190,oRM 176 9,nK 192 (.call (.t 176) [.t 191]) .create 0,oRM 194 8,oR 195 (.nilCheck (.t 194)),oRA 196 5 195,oRD 197 196,oRM 193 9,nK 198 (.call (.t 193) [.t 197]) .write 1,nK 13 (.alloc 45 2 (.agg [.int .i64 0,.int .i64 0])) .create 0,nK 14 (.alloc 45 2 (.agg [.int .i64 0,.int .i64 0])) .create 0,⟨none,.store 2 (.t 13) (.t 192),none,.write,4,false⟩,⟨none,.store 2 (.t 14) (.t 198),none,.write,5,false⟩])
 (oQ [oM 199 8,oW 200 (.nilCheck (.t 199)),oA 201 5 200,oD 202 201,oW 203 (.arith .add (.t 202) (oI 1)),oW 204 (.nilCheck (.t 199)),oA 205 5 204,oS 1 205 203]
 (.seq (.draw [oRM 207 0,oR 208 (.nilCheck (.t 207)),oRA 209 0 208,oRD 210 209,oRM 211 8,oR 212 (.nilCheck (.t 211)),oRA 213 0 212,oRD 214 213,oRL 215 2 13,oRL 216 2 14,oRA 217 7 4,oRD 218 217,oW 219 (.call (oF 56) [.t 210,.t 214,.t 215,.t 216,.t 218]),nK 206 (.move (.t 219)) .read 1,nK 220 (.extract (.t 206) 0) .read 1,nK 221 (.extract (.t 206) 1) .read 1,nK 15 (.move (.t 220)) .read 1,nK 16 (.move (.t 221)) .read 1])
 (oQ [oM 222 0,oW 223 (.nilCheck (.t 222)),oA 224 2 223,oD 225 224,oM 226 15,oW 227 (.call (oF 273) [.t 225,.t 226])]
 (oQ [oL 228 2 14,oL 229 2 13,oW 230 (.build [.int .i64 0,.int .i64 0,.int .i64 0,.int .i64 0,.int .i64 0,.int .i64 0,.nsl] [(2,2,.t 228),(4,2,.t 229)]),oM 231 16,oS 7 6 230,oM 7 231]
 .ret)))))))))))}
theorem WU:aB Tryz.prog Tryz.f278 .full=some NX:=by kernel_rfl
def NW:aD:={ntmps:=15,results:=[.t 6],mode:=.full,body :=
 (oQ [oW 6 (.move (oB false))]
 (oQ [oM 7 0,oW 8 (.nilCheck (.t 7)),oA 9 0 8,oD 10 9,oM 11 1,oM 12 2,oW 13 (.build [.int .i64 0,.int .i64 0] [(0,1,.t 11),(1,1,.t 12)]),oW 14 (.call (oF 337) [.t 10,.t 13]),oM 6 14]
 .ret))}
theorem WT:aB Tryz.prog Tryz.f289 .full=some NW:=by kernel_rfl
def FF:aG :=
 (oQ [oW 12 (.arith .lss (.t 11) (.t 10))]
 (.seq (.cond (.t 12) .skip (.exit 0))
 (.seq (.block 1 (oQ [oW 13 (.indexAddr 1 (.t 9) (.t 11)),oD 14 13,oM 5 14]
 (oQ [oM 15 3,oM 16 5,oW 17 (.len 1 (.t 16)),oW 18 (.arith .add (.t 15) (.t 17)),oM 3 18]
 (oQ [oM 19 3,oW 20 (.arith .lss (.t 19) (oI 0))]
 (.cond (.t 20) (.region [oW 21 (.makeIface 9 (.c (.str [108,101,110,32,111,117,116,32,111,102,32,114,97,110,103,101]))),oZ (.extract (.c .nilp) 0)]) .skip)))))
 (.region [oW 22 (.arith .add (.t 11) (oI 1)),oM 11 22]))))
def FE:aG :=
 (oQ [oW 28 (.arith .lss (.t 27) (.t 26))]
 (.seq (.cond (.t 28) .skip (.exit 2))
 (.seq (.block 3 (oQ [oW 29 (.indexAddr 1 (.t 25) (.t 27)),oD 30 29,oM 8 30]
 (.region [oM 31 6,oM 32 8,oW 33 (.append 49 7 88 (.t 31) (.t 32)),oM 6 33])))
 (.region [oW 34 (.arith .add (.t 27) (oI 1)),oM 27 34]))))
def FH:aG :=
 (oQ [oM 35 6,oM 2 35]
 .ret)
def FG:aG :=
 (oQ [oM 23 3,oW 24 (.call (oF 338) [.c .nsl,.t 23]),oM 6 24]
 (.seq (oQ [oM 25 0,oW 26 (.len 1 (.t 25)),oW 27 (.move (oI 0))]
 (.block 2 (.loop FE)))
 FH))
def NV:aD:={ntmps:=36,results:=[.t 2],mode:=.pure,body :=
 (oQ [oW 2 (.move (.c .nsl))]
 (oQ [oW 3 (.move (oI 0))]
 (.seq (oQ [oM 9 0,oW 10 (.len 1 (.t 9)),oW 11 (.move (oI 0))]
 (.block 0 (.loop FF)))
 FG)))}
theorem WS:aB Tryz.prog Tryz.f290 .pure=some NV:=by kernel_rfl
def FC:aG :=
 (.seq (oQ [oM 15 9,oM 16 10,oW 17 (.arith .lss (.t 15) (.t 16))]
 (.cond (.t 17) .skip (.exit 0)))
 (.block 1 (oQ [oM 18 9,oM 19 10,oW 20 (.arith .add (.t 18) (.t 19)),oW 21 (.conv .u64 (.t 20)),oW 22 (.arith .shr (.t 21) (.c (.int .u64 1))),oW 23 (.conv .i64 (.t 22)),oM 11 23]
 (.seq (.draw [oRM 25 0,oRM 26 11,oR 27 (.indexAddr 3 (.t 25) (.t 26)),oRL 28 3 27,oRL 29 2 4,oRM 24 2,oW 30 (.call (.t 24) [.t 28,.t 29]),nK 31 (.arith .lss (.t 30) (oI 0)) .read 1])
 (.cond (.t 31) (.region [oM 32 11,oW 33 (.arith .add (.t 32) (oI 1)),oM 9 33]) (.region [oM 34 11,oM 10 34]))))))
def FD:aG :=
 (.seq (.draw [oRM 36 9,oRM 37 8,oR 38 (.arith .lss (.t 36) (.t 37)),oRM 39 38,rM 41 0 39 true,rM 42 9 39 true,rW 43 (.indexAddr 3 (.t 41) (.t 42)) 39 true,rL 44 3 43 39 true,rL 45 2 4 39 true,rM 40 2 39 true,gW 46 (.call (.t 40) [.t 44,.t 45]) 39 true,oRM 35 9,⟨(some 47),.arith .eql (.t 46) (oI 0),(some (39,true)),.read,1,false⟩,nK 48 (.pick (.t 39) (.t 47) (oB false)) .read 1,nK 6 (.move (.t 35)) .read 1,nK 7 (.move (.t 48)) .read 1])
 .ret)
def NU:aD:={ntmps:=49,results:=[.t 6,.t 7],mode:=.pure,body :=
 (oQ [oW 4 (.box 45 2 (.t 1)),oW 6 (.move (oI 0)),oW 7 (.move (oB false))]
 (oQ [oM 12 0,oW 13 (.len 1 (.t 12)),oM 8 13]
 (oQ [oM 14 8,oW 9 (.move (oI 0)),oM 10 14]
 (.seq (.block 0 (.loop FC))
 FD))))}
theorem WR:aB Tryz.prog Tryz.f291 .pure=some NU:=by kernel_rfl
def NT:aD:={ntmps:=15,results:=[.t 4],mode:=.pure,body :=
 (oQ [oW 2 (.box 151 3 (.t 0)),oW 3 (.box 45 2 (.t 1)),oW 4 (.move (oI 0))]
 (.seq (.block 0 (oQ [oA 6 0 2,oL 7 2 6,oL 8 2 3,oW 9 (.eqa false [1,1] (.t 7) (.t 8)),oM 5 9]
 (.cond (.t 5) (oQ [oW 4 (.move (oI 0))]
 .ret) (oQ [oA 11 0 2,oL 12 2 11,oL 13 2 3,oW 14 (.call (oF 99) [.t 12,.t 13]),oM 10 14]
 (.cond (.t 10) (oQ [oW 4 (.move (oI (-1)))]
 .ret) .skip)))))
 (oQ [oW 4 (.move (oI 1))]
 .ret)))}
theorem WQ:aB Tryz.prog Tryz.f292 .pure=some NT:=by kernel_rfl
def NS:aD:={ntmps:=10,results:=[],mode:=.full,body :=
 (.region [oM 4 0,oM 5 0,oW 6 (.len 1 (.t 5)),oM 7 1,oW 8 (.arith .sub (.t 6) (.t 7)),oW 9 (.call (oF 339) [.t 4,.t 8])])}
theorem WP:aB Tryz.prog Tryz.f294 .full=some NS:=by kernel_rfl
def NR:aD:={ntmps:=10,results:=[],mode:=.full,body :=
 (.region [oM 4 0,oM 5 0,oW 6 (.len 1 (.t 5)),oM 7 1,oW 8 (.arith .sub (.t 6) (.t 7)),oW 9 (.call (oF 344) [.t 4,.t 8])])}
theorem WO:aB Tryz.prog Tryz.f307 .full=some NR:=by kernel_rfl
def NQ:aD:={ntmps:=10,results:=[],mode:=.full,body :=
 (.region [oM 4 0,oM 5 0,oW 6 (.len 1 (.t 5)),oM 7 1,oW 8 (.arith .sub (.t 6) (.t 7)),oW 9 (.call (oF 345) [.t 4,.t 8])])}
theorem WN:aB Tryz.prog Tryz.f309 .full=some NQ:=by kernel_rfl
end Go.Dm.Tc
