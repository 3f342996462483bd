/- A part of the proof. -/
import Derived.Test.YtfkbogedodngeaaGreatTc0
import Derived.Test.YtfkbogedodngeaaGreatMm4
import Derived.Test.YtfkbogedodngeaaGreatRows
import Derived.KernelRfl
namespace Go.Dm.Tc
open Go.Proofs
def P8:aK:={ntmps:=44,results:=[(.cell 6 (some 6)),.t 7],mode:=.frz,body :=
 (oQ [oW 3 (.box 31 6 (.t 0)),oW 4 (.box 24 2 (.t 1)),oW 6 (.alloc 31 6 (.agg [.int .i64 0,.nsl,.nsl,.nsl,.nsl,.nsl])),oW 7 (.move (oB false))]
 (oQ [oL 10 6 3,oW 11 (.call (oF 31) [.t 10]),oS 6 3 11]
 (oQ [oL 13 6 3,oL 14 2 4,oW 15 (.call (oF 33) [.t 13,.t 14]),oM 12 15,oX 16 12 0,oX 17 12 1,oM 8 16,oM 9 17]
 (.seq (oQ [oM 18 9,oW 19 (.un .not (.t 18)),oM 20 19,gA 21 2 3 20 false,gD 22 21 20 false,gM 23 8 20 false,gW 24 (.indexAddr 4 (.t 22) (.t 23)) 20 false,gA 25 3 24 20 false,gD 26 25 20 false,gM 27 2 20 false,gW 28 (.arith .neq (.t 26) (.t 27)) 20 false,oW 29 (.pick (.t 20) (oB true) (.t 28))]
 (.cond (.t 29) (oQ [oL 30 6 3,oS 6 6 30,oW 7 (.move (oB false))]
 .ret) .skip))
 (oQ [oA 31 2 3,oD 32 31,oM 33 8,oM 34 8,oW 35 (.arith .add (.t 34) (oI 1)),oW 36 (.call (oF 135) [.t 32,.t 33,.t 35]),oA 37 2 3,oS 1 37 36]
 (oQ [oA 38 4 3,oD 39 38,oW 40 (.makeFunc 137 [.t 4]),oW 41 (.call (oF 136) [.t 39,.t 40]),oA 42 4 3,oS 1 42 41]
 (oQ [oL 43 6 3,oS 6 6 43,oW 7 (.move (oB true))]
 .ret)))))))}
theorem o0:aD Tryz.prog Tryz.f104 .frz=some P8:=by kernel_rfl
def VQ:aK:={ntmps:=6,results:=[.t 2],mode:=.full,body :=
 (oQ [oW 2 (.move (.c .nili))]
 (oQ [oM 3 0,oW 4 (.makeIface 171 (oI 8)),oW 5 (.call (oF 52) [(.c (.str [113,117,101,117,101])),.t 3,.t 4]),oM 2 5]
 .ret))}
theorem n9:aD Tryz.prog Tryz.f105 .full=some VQ:=by kernel_rfl
def QJ:aI :=
 (oQ [oW 39 (.arith .lss (.t 38) (.t 37))]
 (.seq (.cond (.t 39) .skip (.exit 0))
 (.seq (.block 1 (oQ [oW 40 (.indexAddr 1 (.t 36) (.t 38)),oD 41 40,oM 13 41]
 (.region [oM 42 10,oM 43 13,oL 44 7 5,oW 45 (.build [.int .i64 0,.int .i64 0,.int .i64 0,.int .i64 0,.int .i64 0,.int .i64 0,.nsl,.nsl] [(0,1,.t 43),(1,7,.t 44)]),oW 46 (.buildSlice 54 8 (.agg [.int .i64 0,.int .i64 0,.int .i64 0,.int .i64 0,.int .i64 0,.int .i64 0,.nsl,.nsl]) 1 [(0,.t 45)]),oW 47 (.append 54 8 96 (.t 42) (.t 46)),oM 10 47])))
 (.region [oW 48 (.arith .add (.t 38) (oI 1)),oM 38 48]))))
def QI:aI :=
 (oQ [oW 55 (.arith .lss (.t 54) (.t 53))]
 (.seq (.cond (.t 55) .skip (.exit 2))
 (.seq (.block 3 (oQ [oW 56 (.indexAddr 1 (.t 52) (.t 54)),oD 57 56,oM 15 57]
 (.region [oM 58 11,oM 59 15,oA 60 3 5,oL 61 2 60,oA 62 6 5,oD 63 62,oW 64 (.build [.int .i64 0,.int .i64 0,.int .i64 0,.nsl] [(0,1,.t 59),(1,2,.t 61),(3,1,.t 63)]),oW 65 (.buildSlice 219 4 (.agg [.int .i64 0,.int .i64 0,.int .i64 0,.nsl]) 1 [(0,.t 64)]),oW 66 (.append 219 4 48 (.t 58) (.t 65)),oM 11 66])))
 (.region [oW 67 (.arith .add (.t 54) (oI 1)),oM 54 67]))))
def QL:aI :=
 (oQ [oM 68 10,oM 69 11,oM 6 68,oM 7 69]
 .ret)
def QK:aI :=
 (.seq (oQ [oL 49 6 3,oA 50 6 5,oD 51 50,oW 52 (.call (oF 139) [.t 49,.t 51]),oW 53 (.len 1 (.t 52)),oW 54 (.move (oI 0))]
 (.block 2 (.loop QI)))
 QL)
def VP:aK:={ntmps:=70,results:=[.t 6,.t 7],mode:=.frz,body :=
 (oQ [oW 3 (.box 31 6 (.t 0)),oW 5 (.box 52 7 (.t 2)),oW 6 (.move (.c .nsl)),oW 7 (.move (.c .nsl))]
 (oQ [oL 17 6 3,oA 18 1 5,oL 19 2 18,oW 20 (.call (oF 66) [.t 17,.t 19]),oM 16 20,oX 21 16 0,oX 22 16 1,oW 8 (.alloc 37 4 (.agg [.int .i64 0,.int .i64 0,.nsl,.int .i64 0])),oS 4 8 21,oM 9 22]
 (.seq (oQ [oM 23 9,oW 24 (.un .not (.t 23)),oM 25 24,gA 26 3 8 25 false,gD 27 26 25 false,gM 28 1 25 false,gW 29 (.arith .neq (.t 27) (.t 28)) 25 false,oW 30 (.pick (.t 25) (oB true) (.t 29))]
 (.cond (.t 30) (oQ [oW 6 (.move (.c .nsl)),oW 7 (.move (.c .nsl))]
 .ret) .skip))
 (oQ [oW 10 (.move (.c .nsl))]
 (oQ [oW 11 (.move (.c .nsl))]
 (.seq (oQ [oL 31 6 3,oA 32 1 5,oL 33 2 32,oA 34 6 5,oD 35 34,oW 36 (.call (oF 138) [.t 31,.t 33,.t 35]),oW 37 (.len 1 (.t 36)),oW 38 (.move (oI 0))]
 (.block 0 (.loop QJ)))
 QK))))))}
theorem n8:aD Tryz.prog Tryz.f106 .frz=some VP:=by kernel_rfl
def CV:aK:={ntmps:=34,results:=[.t 8],mode:=.full,body :=
 (oQ [oW 8 (.move (.c .nili))]
 (.seq (oQ [oM 10 0,oM 11 1,oM 12 2,oW 13 (.call (oF 140) [.t 10,.t 11,.t 12]),oW 14 (.un .not (.t 13))]
 (.cond (.t 14) (oQ [oM 15 1,oW 16 (.call (oF 105) [.t 15]),oM 8 16]
 .ret) .skip))
 (oQ [oM 17 1,oM 18 2,oW 19 (.build [.int .i64 0,.int .i64 0] [(0,1,.t 17),(1,1,.t 18)]),oW 9 (.alloc 76 2 (.agg [.int .i64 0,.int .i64 0])),oS 2 9 19]
 (.seq (.draw [oRM 20 0,oR 21 (.nilCheck (.t 20)),oRA 22 1 21,oRD 23 22,oRL 24 2 9,oRM 25 0,oR 26 (.nilCheck (.t 25)),oRA 27 1 26,oRD 28 27,oRL 29 2 9,oR 30 (.lookup (.agg [1,1]) .nsl false (.t 28) (.t 29)),oRM 31 3,nK 32 (.buildSlice 182 1 .nsl 2 [(0,.t 30),(1,.t 31)]) .create 0,nK 33 (.call (oF 141) [.t 32]) .create 0,⟨none,.mapUpdate (.agg [1,1]) (.t 23) (.t 24) (.t 33),none,.write,2,false⟩])
 (oQ [oW 8 (.move (.c .nili))]
 .ret)))))}
theorem n7:aD Tryz.prog Tryz.f107 .full=some CV:=by kernel_rfl
def Lx:aI :=
 (oQ [oW 9 (.arith .lss (.t 8) (.t 7))]
 (.seq (.cond (.t 9) .skip (.exit 0))
 (.seq (.block 1 (oQ [oM 10 8,oM 5 10]
 (oQ [oM 11 1,oM 12 0,oM 13 5,oW 14 (.indexAddr 1 (.t 12) (.t 13)),oD 15 14,oW 16 (.arith .eql (.t 11) (.t 15))]
 (.cond (.t 16) (oQ [oM 17 5,oM 4 17]
 .ret) .skip))))
 (.region [oW 18 (.arith .add (.t 8) (oI 1)),oM 8 18]))))
def Wi:aI :=
 (oQ [oW 4 (.move (oI (-1)))]
 .ret)
def P7:aK:={ntmps:=19,results:=[.t 4],mode:=.pure,body :=
 (oQ [oW 4 (.move (oI 0))]
 (.seq (oQ [oM 6 0,oW 7 (.len 1 (.t 6)),oW 8 (.move (oI 0))]
 (.block 0 (.loop Lx)))
 Wi))}
theorem m9:aD Tryz.prog Tryz.f108 .pure=some P7:=by kernel_rfl
def rP:aI :=
 (oQ [oW 9 (.arith .lss (.t 8) (.t 7))]
 (.seq (.cond (.t 9) .skip (.exit 0))
 (.seq (.block 1 (oQ [oW 10 (.indexAddr 1 (.t 6) (.t 8)),oD 11 10,oM 5 11]
 (oQ [oM 12 5,oM 13 3,oW 14 (.arith .neq (.t 12) (.t 13))]
 (.cond (.t 14) (oQ [oM 15 5,oM 2 15]
 .ret) .skip))))
 (.region [oW 16 (.arith .add (.t 8) (oI 1)),oM 8 16]))))
def Du:aI :=
 (oQ [oM 17 3,oM 2 17]
 .ret)
def Ae:aK:={ntmps:=18,results:=[.t 2],mode:=.pure,body :=
 (oQ [oW 2 (.move (oI 0))]
 (oQ [oW 3 (.move (oI 0))]
 (.seq (oQ [oM 6 0,oW 7 (.len 1 (.t 6)),oW 8 (.move (oI 0))]
 (.block 0 (.loop rP)))
 Du)))}
theorem TF:aD Tryz.prog Tryz.f109 .pure=some Ae:=by kernel_rfl
def tA:aK:={ntmps:=20,results:=[.t 4],mode:=.pure,body :=
 (oQ [oW 4 (.move (oI 0))]
 (oQ [oM 7 0,oW 8 (.call (oF 142) [.t 7]),oM 5 8]
 (oQ [oM 9 1,oW 10 (.call (oF 142) [.t 9]),oM 6 10]
 (.seq (oQ [oM 11 5]
 (.cond (.t 11) (.seq (oQ [oM 12 6]
 (.cond (.t 12) (oQ [oW 4 (.move (oI 0))]
 .ret) .skip))
 (oQ [oW 4 (.move (oI (-1)))]
 .ret)) .skip))
 (.seq (oQ [oM 13 6]
 (.cond (.t 13) (oQ [oW 4 (.move (oI 1))]
 .ret) .skip))
 (.seq (oQ [oM 14 0,oM 15 1,oW 16 (.arith .lss (.t 14) (.t 15))]
 (.cond (.t 16) (oQ [oW 4 (.move (oI (-1)))]
 .ret) .skip))
 (.seq (oQ [oM 17 0,oM 18 1,oW 19 (.arith .gtr (.t 17) (.t 18))]
 (.cond (.t 19) (oQ [oW 4 (.move (oI 1))]
 .ret) .skip))
 (oQ [oW 4 (.move (oI 0))]
 .ret))))))))}
theorem TE:aD Tryz.prog Tryz.f110 .pure=some tA:=by kernel_rfl
def VO:aK:={ntmps:=14,results:=[],mode:=.full,body :=
 (oQ [oM 4 0,oM 5 1,oW 6 (.sliceSl 4 (.t 4) none (some (.t 5))),oW 7 (.call (oF 143) [.t 6])]
 (oQ [oM 8 0,oM 9 1,oW 10 (.sliceSl 4 (.t 8) (some (.t 9)) none),oW 11 (.call (oF 143) [.t 10])]
 (.region [oM 12 0,oW 13 (.call (oF 143) [.t 12])])))}
theorem m8:aD Tryz.prog Tryz.f111 .full=some VO:=by kernel_rfl
def VN:aK:={ntmps:=14,results:=[],mode:=.full,body :=
 (oQ [oM 4 0,oM 5 1,oW 6 (.sliceSl 2 (.t 4) none (some (.t 5))),oW 7 (.call (oF 144) [.t 6])]
 (oQ [oM 8 0,oM 9 1,oW 10 (.sliceSl 2 (.t 8) (some (.t 9)) none),oW 11 (.call (oF 144) [.t 10])]
 (.region [oM 12 0,oW 13 (.call (oF 144) [.t 12])])))}
theorem m7:aD Tryz.prog Tryz.f112 .full=some VN:=by kernel_rfl
def QF:aI :=
 (oQ [oW 16 (.arith .lss (.t 15) (.t 14))]
 (.seq (.cond (.t 16) .skip (.exit 0))
 (.seq (.block 1 (oQ [oM 17 15,oW 18 (.indexAddr 5 (.t 13) (.t 15)),oL 19 5 18,oW 5 (.alloc 98 5 (.agg [.str [],.int .i64 0,.int .i64 0,.int .i64 0,.str []])),oM 4 17,oS 5 5 19]
 (oQ [oL 20 5 5,oW 21 (.call (oF 151) [.t 20]),oW 22 (.un .not (.t 21))]
 (.cond (.t 22) (oQ [oM 23 4,oW 24 (.makeIface 171 (oI 1)),oW 25 (.call (oF 52) [(.c (.str [112,114,101,100])),.t 23,.t 24]),oW 2 (.move (.c .nsl)),oM 3 25]
 .ret) .skip))))
 (.region [oW 26 (.arith .add (.t 15) (oI 1)),oM 15 26]))))
def QE:aI :=
 (oQ [oW 30 (.arith .lss (.t 29) (.t 28))]
 (.seq (.cond (.t 30) .skip (.exit 2))
 (.seq (.block 3 (oQ [oM 31 29,oW 32 (.indexAddr 5 (.t 27) (.t 29)),oL 33 5 32,oW 8 (.alloc 98 5 (.agg [.str [],.int .i64 0,.int .i64 0,.int .i64 0,.str []])),oM 7 31,oS 5 8 33]
 (oQ [oM 35 6,oA 36 0 8,oD 37 36,oW 38 (.call (oF 152) [.t 35,.t 37,oF 153]),oM 34 38,oX 39 34 0,oX 40 34 1,oM 9 39,oM 10 40]
 (.block 4 (oQ [oM 47 10,oM 46 47]
 (.cond (.t 46) (.seq (.draw [oRM 49 6,oRM 50 9,oR 51 (.indexAddr 5 (.t 49) (.t 50)),oRL 52 5 51,oRL 53 5 8,oW 54 (.call (oF 155) [.t 52,.t 53]),nK 48 (.move (.t 54)) .read 1,nK 55 (.extract (.t 48) 0) .read 1,nK 11 (.alloc 98 5 (.agg [.str [],.int .i64 0,.int .i64 0,.int .i64 0,.str []])) .create 0,⟨none,.store 5 (.t 11) (.t 55),none,.write,2,false⟩,nK 56 (.extract (.t 48) 1) .read 1,nK 12 (.move (.t 56)) .read 3])
 (.seq (oQ [oM 57 12,oW 58 (.un .not (.t 57))]
 (.cond (.t 58) (oQ [oM 59 7,oW 60 (.makeIface 171 (oI 5)),oW 61 (.call (oF 52) [(.c (.str [112,114,101,100])),.t 59,.t 60]),oW 2 (.move (.c .nsl)),oM 3 61]
 .ret) .skip))
 (.region [oM 62 6,oM 63 9,oL 64 5 11,oW 65 (.indexAddr 5 (.t 62) (.t 63)),oS 5 65 64]))) (oQ [oM 67 6,oW 68 (.len 1 (.t 67)),oW 69 (.arith .eql (.t 68) (oI 5)),oM 66 69]
 (.cond (.t 66) (oQ [oM 70 7,oW 71 (.makeIface 171 (oI 7)),oW 72 (.call (oF 52) [(.c (.str [112,114,101,100])),.t 70,.t 71]),oW 2 (.move (.c .nsl)),oM 3 72]
 .ret) (.region [oM 41 6,oM 42 9,oL 43 5 8,oW 44 (.buildSlice 98 5 (.agg [.str [],.int .i64 0,.int .i64 0,.int .i64 0,.str []]) 1 [(0,.t 43)]),oW 45 (.call (oF 156) [.t 41,.t 42,.t 44]),oM 6 45])))))))))
 (.region [oW 73 (.arith .add (.t 29) (oI 1)),oM 29 73]))))
def QH:aI :=
 (oQ [oM 74 6,oM 2 74,oW 3 (.move (.c .nili))]
 .ret)
def QG:aI :=
 (oQ [oW 6 (.move (.c .nsl))]
 (.seq (oQ [oM 27 0,oW 28 (.len 1 (.t 27)),oW 29 (.move (oI 0))]
 (.block 2 (.loop QE)))
 QH))
def VM:aK:={ntmps:=75,results:=[.t 2,.t 3],mode:=.pure,body :=
 (oQ [oW 2 (.move (.c .nsl)),oW 3 (.move (.c .nili))]
 (.seq (oQ [oM 13 0,oW 14 (.len 1 (.t 13)),oW 15 (.move (oI 0))]
 (.block 0 (.loop QF)))
 QG))}
theorem m6:aD Tryz.prog Tryz.f125 .pure=some VM:=by kernel_rfl
def QC:aI :=
 (oQ [oW 10 (.arith .lss (.t 9) (.t 8))]
 (.seq (.cond (.t 10) .skip (.exit 0))
 (.seq (.block 1 (oQ [oW 11 (.indexAddr 5 (.t 7) (.t 9)),oL 12 5 11,oW 5 (.alloc 98 5 (.agg [.str [],.int .i64 0,.int .i64 0,.int .i64 0,.str []])),oS 5 5 12]
 (oQ [oA 13 4 5,oD 14 13,oW 15 (.call (oF 97) [.t 14]),oW 6 (.alloc 167 3 (.agg [.bool false,.int .i64 0,.str []])),oS 3 6 15]
 (.seq (oQ [oA 16 1 5,oD 17 16,oW 18 (.arith .eql (.t 17) (oI 1))]
 (.cond (.t 18) (.region [oA 19 2 5,oD 20 19,oW 21 (.call (oF 157) [.t 20]),oS 3 6 21]) .skip))
 (.region [oM 22 3,oA 23 0 5,oD 24 23,oL 25 3 6,oW 26 (.build [.str [],.bool false,.int .i64 0,.str []] [(0,1,.t 24),(1,3,.t 25)]),oW 27 (.buildSlice 238 4 (.agg [.str [],.bool false,.int .i64 0,.str []]) 1 [(0,.t 26)]),oW 28 (.append 238 4 48 (.t 22) (.t 27)),oM 3 28])))))
 (.region [oW 29 (.arith .add (.t 9) (oI 1)),oM 9 29]))))
def QD:aI :=
 (oQ [oM 30 3,oM 2 30]
 .ret)
def VL:aK:={ntmps:=31,results:=[.t 2],mode:=.pure,body :=
 (oQ [oW 2 (.move (.c .nsl))]
 (oQ [oW 3 (.move (.c .nsl))]
 (.seq (oQ [oM 7 0,oW 8 (.len 1 (.t 7)),oW 9 (.move (oI 0))]
 (.block 0 (.loop QC)))
 QD)))}
theorem m5:aD Tryz.prog Tryz.f126 .pure=some VL:=by kernel_rfl
def VK:aK:={ntmps:=15,results:=[.t 6,.t 7],mode:=.pure,body :=
 (oQ [oW 3 (.box 31 6 (.t 0)),oW 4 (.box 24 2 (.t 1)),oW 5 (.box 24 2 (.t 2)),oW 6 (.move (oI 0)),oW 7 (.move (oB false))]
 (oQ [oA 8 4 3,oD 9 8,oL 10 2 5,oW 11 (.makeFunc 159 [.t 4]),oW 12 (.call (oF 158) [.t 9,.t 10,.t 11]),oX 13 12 0,oX 14 12 1,oM 6 13,oM 7 14]
 .ret))}
theorem l9:aD Tryz.prog Tryz.f127 .pure=some VK:=by kernel_rfl
def VJ:aK:={ntmps:=12,results:=[.t 6],mode:=.pure,body :=
 (oQ [oW 3 (.box 31 6 (.t 0)),oW 4 (.box 24 2 (.t 1)),oW 5 (.box 35 1 (.t 2)),oW 6 (.move (oB false))]
 (oQ [oL 7 6 3,oL 8 2 4,oW 9 (.call (oF 14) [.t 7,.t 8]),oW 10 (.makeFunc 161 [.t 5]),oW 11 (.call (oF 160) [.t 9,.t 10]),oM 6 11]
 .ret))}
theorem l8:aD Tryz.prog Tryz.f128 .pure=some VJ:=by kernel_rfl
def QB:aK:={ntmps:=95,results:=[.t 6],mode:=.split,body :=
 (oQ [oW 6 (.move (.c .nsl))]
 (oQ [oM 10 0,oM 11 1,oW 12 (.sliceSl 7 (.t 10) (some (.t 11)) none)]
 (oQ [oM 13 2,oW 14 (.len 1 (.t 13)),oM 7 14]
 (.seq (oQ [oM 15 7,oW 16 (.arith .eql (.t 15) (oI 0))]
 (.cond (.t 16) (oQ [oM 17 0,oM 6 17]
 .ret) .skip))
 (oQ [oM 18 0,oW 19 (.len 1 (.t 18)),oM 8 19]
 (.seq (oQ [oM 20 1,oM 21 8,oW 22 (.arith .eql (.t 20) (.t 21))]
 (.cond (.t 22) (oQ [oM 23 0,oM 24 2,oW 25 (.append 58 7 72 (.t 23) (.t 24)),oM 6 25]
 .ret) .skip))
 (.seq (oQ [oM 26 8,oM 27 7,oW 28 (.arith .add (.t 26) (.t 27)),oM 29 0,oW 30 (.cap (.t 29)),oW 31 (.arith .gtr (.t 28) (.t 30))]
 (.cond (.t 31) (oQ [oM 32 0,oM 33 1,oW 34 (.sliceSl 7 (.t 32) none (some (.t 33))),oM 35 8,oM 36 7,oW 37 (.arith .add (.t 35) (.t 36)),oM 38 1,oW 39 (.arith .sub (.t 37) (.t 38)),oW 40 (.appendZ 58 7 72 (.agg [.int .i64 0,.int .i64 0,.int .i64 0,.int .i64 0,.nsl,.int .i64 0,.bool false]) (.t 34) (.t 39)),oM 9 40]
 (oQ [oM 41 9,oM 42 1,oW 43 (.sliceSl 7 (.t 41) (some (.t 42)) none),oM 44 2,oW 45 (.copy 7 (.t 43) (.t 44))]
 (.seq (.draw [oRM 46 9,oRM 47 1,oRM 48 7,oR 49 (.arith .add (.t 47) (.t 48)),oR 50 (.sliceSl 7 (.t 46) (some (.t 49)) none),oRM 51 0,oRM 52 1,oR 53 (.sliceSl 7 (.t 51) (some (.t 52)) none),oW 54 (.copy 7 (.t 50) (.t 53))])
 (oQ [oM 55 9,oM 6 55]
 .ret)))) .skip))
 (oQ [oM 56 0,oM 57 8,oM 58 7,oW 59 (.arith .add (.t 57) (.t 58)),oW 60 (.sliceSl 7 (.t 56) none (some (.t 59))),oM 0 60]
 (.seq (oQ [oM 61 2,oM 62 0,oM 63 1,oM 64 7,oW 65 (.arith .add (.t 63) (.t 64)),oW 66 (.sliceSl 7 (.t 62) (some (.t 65)) none),oW 67 (.call (oF 162) [.t 61,.t 66]),oW 68 (.un .not (.t 67))]
 (.cond (.t 68) (.seq (.draw [oRM 69 0,oRM 70 1,oRM 71 7,oR 72 (.arith .add (.t 70) (.t 71)),oR 73 (.sliceSl 7 (.t 69) (some (.t 72)) none),oRM 74 0,oRM 75 1,oR 76 (.sliceSl 7 (.t 74) (some (.t 75)) none),oW 77 (.copy 7 (.t 73) (.t 76))])
 (oQ [oM 78 0,oM 79 1,oW 80 (.sliceSl 7 (.t 78) (some (.t 79)) none),oM 81 2,oW 82 (.copy 7 (.t 80) (.t 81))]
 (oQ [oM 83 0,oM 6 83]
 .ret))) .skip))
 (oQ [oM 84 0,oM 85 8,oW 86 (.sliceSl 7 (.t 84) (some (.t 85)) none),oM 87 2,oW 88 (.copy 7 (.t 86) (.t 87))]
 (oQ [oM 89 0,oM 90 1,oW 91 (.sliceSl 7 (.t 89) (some (.t 90)) none),oM 92 7,oW 93 (.call (oF 163) [.t 91,.t 92])]
 (oQ [oM 94 0,oM 6 94]
 .ret))))))))))))}
theorem l7:aD Tryz.prog Tryz.f129 .split=some QB:=by kernel_rfl
def VI:aK:={ntmps:=33,results:=[.t 6],mode:=.full,body :=
 (oQ [oW 6 (.move (.c .nsl))]
 (oQ [oM 8 0,oM 9 1,oM 10 2,oM 11 0,oW 12 (.len 1 (.t 11)),oW 13 (.slice3 (.t 8) (.t 9) (.t 10) (.t 12))]
 (.seq (oQ [oM 14 1,oM 15 2,oW 16 (.arith .eql (.t 14) (.t 15))]
 (.cond (.t 16) (oQ [oM 17 0,oM 6 17]
 .ret) .skip))
 (oQ [oM 18 0,oW 19 (.len 1 (.t 18)),oM 7 19]
 (.seq (.draw [oRM 20 0,oRM 21 1,oR 22 (.sliceSl 7 (.t 20) none (some (.t 21))),oRM 23 0,oRM 24 2,oR 25 (.sliceSl 7 (.t 23) (some (.t 24)) none),oW 26 (.append 58 7 72 (.t 22) (.t 25)),nK 0 (.move (.t 26)) .read 1])
 (oQ [oM 27 0,oM 28 0,oW 29 (.len 1 (.t 28)),oM 30 7,oW 31 (.sliceSl 7 (.t 27) (some (.t 29)) (some (.t 30))),oZ (.clear 7 (.agg [.int .i64 0,.int .i64 0,.int .i64 0,.int .i64 0,.nsl,.int .i64 0,.bool false]) (.t 31))]
 (oQ [oM 32 0,oM 6 32]
 .ret)))))))}
theorem l6:aD Tryz.prog Tryz.f130 .full=some VI:=by kernel_rfl
def VH:aK:={ntmps:=18,results:=[.t 4],mode:=.pure,body :=
 (oQ [oW 4 (.move (oB false))]
 (oQ [oM 5 0,oW 6 (.len 0 (.t 5)),oM 7 1,oW 8 (.len 0 (.t 7)),oW 9 (.arith .geq (.t 6) (.t 8)),oM 10 9,gM 11 0 10 true,gM 12 1 10 true,gW 13 (.len 0 (.t 12)) 10 true,gW 14 (.sliceStr (.t 11) none (some (.t 13))) 10 true,gM 15 1 10 true,gW 16 (.arith .eql (.t 14) (.t 15)) 10 true,oW 17 (.pick (.t 10) (.t 16) (oB false)),oM 4 17]
 .ret))}
theorem k9:aD Tryz.prog Tryz.f131 .pure=some VH:=by kernel_rfl
def Dt:aK:={ntmps:=17,results:=[.t 4],mode:=.pure,body :=
 (oQ [oW 2 (.box 76 2 (.t 0)),oW 3 (.box 76 2 (.t 1)),oW 4 (.move (oI 0))]
 (.seq (.draw [oR 5 (.indexArr 2 1 (.t 2) (oI 0)),oRD 6 5,oR 7 (.indexArr 2 1 (.t 3) (oI 0)),oRD 8 7,nK 9 (.call (oF 110) [.t 6,.t 8]) .create 0,oR 10 (.indexArr 2 1 (.t 2) (oI 1)),oRD 11 10,oR 12 (.indexArr 2 1 (.t 3) (oI 1)),oRD 13 12,nK 14 (.call (oF 110) [.t 11,.t 13]) .write 1,nK 15 (.buildSlice 3 1 (.int .i64 0) 2 [(0,.t 9),(1,.t 14)]) .create 0,nK 16 (.call (oF 109) [.t 15]) .write 3,nK 4 (.move (.t 16)) .read 4])
 .ret))}
theorem TD:aD Tryz.prog Tryz.f133 .pure=some Dt:=by kernel_rfl
def PZ:aI :=
 (.seq (oQ [oM 29 5,oM 30 4,oW 31 (.len 1 (.t 30)),oW 32 (.arith .lss (.t 29) (.t 31))]
 (.cond (.t 32) .skip (.exit 2)))
 (.seq (.block 3 (.seq (.draw [oRM 35 4,oRM 36 5,oR 37 (.indexAddr 2 (.t 35) (.t 36)),oRL 38 2 37,oRM 39 4,oRM 40 5,oR 41 (.arith .sub (.t 40) (oI 1)),oR 42 (.indexAddr 2 (.t 39) (.t 41)),oRL 43 2 42,oR 44 (.eqa true [1,1] (.t 38) (.t 43))])
 (.cond (.t 44) (oQ [oM 45 0,oM 46 3,oM 47 4,oM 48 5,oW 49 (.indexAddr 2 (.t 47) (.t 48)),oL 50 2 49,oW 51 (.indexAddr 2 (.t 45) (.t 46)),oS 2 51 50]
 (.region [oM 52 3,oW 53 (.arith .add (.t 52) (oI 1)),oM 3 53])) .skip)))
 (.region [oM 33 5,oW 34 (.arith .add (.t 33) (oI 1)),oM 5 34])))
def QA:aI :=
 (oQ [oM 54 0,oM 55 3,oW 56 (.sliceSl 2 (.t 54) (some (.t 55)) none),oZ (.clear 2 (.agg [.int .i64 0,.int .i64 0]) (.t 56))]
 (oQ [oM 57 0,oM 58 3,oW 59 (.sliceSl 2 (.t 57) none (some (.t 58))),oM 2 59]
 .ret))
def CU:aI :=
 (.region [oM 14 3,oW 15 (.arith .add (.t 14) (oI 1)),oM 3 15])
def Lw:aI :=
 (.seq (oQ [oM 10 3,oM 11 0,oW 12 (.len 1 (.t 11)),oW 13 (.arith .lss (.t 10) (.t 12))]
 (.cond (.t 13) .skip (.exit 0)))
 (.seq (.block 1 (.seq (.draw [oRM 16 0,oRM 17 3,oR 18 (.indexAddr 2 (.t 16) (.t 17)),oRL 19 2 18,oRM 20 0,oRM 21 3,oR 22 (.arith .sub (.t 21) (oI 1)),oR 23 (.indexAddr 2 (.t 20) (.t 22)),oRL 24 2 23,oR 25 (.eqa false [1,1] (.t 19) (.t 24))])
 (.cond (.t 25) (oQ [oM 26 0,oM 27 3,oW 28 (.sliceSl 2 (.t 26) (some (.t 27)) none),oM 4 28]
 (.seq (oQ [oW 5 (.move (oI 1))]
 (.block 2 (.loop PZ)))
 QA)) .skip)))
 CU))
def Wh:aI :=
 (oQ [oM 60 0,oM 2 60]
 .ret)
def Qd:aK:={ntmps:=61,results:=[.t 2],mode:=.full,body :=
 (oQ [oW 2 (.move (.c .nsl))]
 (.seq (oQ [oM 6 0,oW 7 (.len 1 (.t 6)),oW 8 (.arith .lss (.t 7) (oI 2))]
 (.cond (.t 8) (oQ [oM 9 0,oM 2 9]
 .ret) .skip))
 (.seq (oQ [oW 3 (.move (oI 1))]
 (.block 0 (.loop Lw)))
 Wh)))}
theorem k8:aD Tryz.prog Tryz.f134 .full=some Qd:=by kernel_rfl
def P6:aK:={ntmps:=33,results:=[.t 6],mode:=.full,body :=
 (oQ [oW 6 (.move (.c .nsl))]
 (oQ [oM 8 0,oM 9 1,oM 10 2,oM 11 0,oW 12 (.len 1 (.t 11)),oW 13 (.slice3 (.t 8) (.t 9) (.t 10) (.t 12))]
 (.seq (oQ [oM 14 1,oM 15 2,oW 16 (.arith .eql (.t 14) (.t 15))]
 (.cond (.t 16) (oQ [oM 17 0,oM 6 17]
 .ret) .skip))
 (oQ [oM 18 0,oW 19 (.len 1 (.t 18)),oM 7 19]
 (.seq (.draw [oRM 20 0,oRM 21 1,oR 22 (.sliceSl 4 (.t 20) none (some (.t 21))),oRM 23 0,oRM 24 2,oR 25 (.sliceSl 4 (.t 23) (some (.t 24)) none),oW 26 (.append 37 4 48 (.t 22) (.t 25)),nK 0 (.move (.t 26)) .read 1])
 (oQ [oM 27 0,oM 28 0,oW 29 (.len 1 (.t 28)),oM 30 7,oW 31 (.sliceSl 4 (.t 27) (some (.t 29)) (some (.t 30))),oZ (.clear 4 (.agg [.int .i64 0,.int .i64 0,.nsl,.int .i64 0]) (.t 31))]
 (oQ [oM 32 0,oM 6 32]
 .ret)))))))}
theorem k7:aD Tryz.prog Tryz.f135 .full=some P6:=by kernel_rfl
def Lv:aI :=
 (.seq (oQ [oM 16 6,oM 17 0,oW 18 (.len 1 (.t 17)),oW 19 (.arith .lss (.t 16) (.t 18))]
 (.cond (.t 19) .skip (.exit 0)))
 (.seq (.block 1 (oQ [oM 22 0,oM 23 6,oW 24 (.indexAddr 7 (.t 22) (.t 23)),oL 25 7 24,oW 7 (.alloc 58 7 (.agg [.int .i64 0,.int .i64 0,.int .i64 0,.int .i64 0,.nsl,.int .i64 0,.bool false])),oS 7 7 25]
 (oQ [oM 26 1,oL 27 7 7,oW 28 (.call (.t 26) [.t 27]),oW 29 (.un .not (.t 28))]
 (.cond (.t 29) (oQ [oM 30 0,oM 31 5,oL 32 7 7,oW 33 (.indexAddr 7 (.t 30) (.t 31)),oS 7 33 32]
 (.region [oM 34 5,oW 35 (.arith .add (.t 34) (oI 1)),oM 5 35])) .skip))))
 (.region [oM 20 6,oW 21 (.arith .add (.t 20) (oI 1)),oM 6 21])))
def Wg:aI :=
 (oQ [oM 36 0,oM 37 5,oW 38 (.sliceSl 7 (.t 36) (some (.t 37)) none),oZ (.clear 7 (.agg [.int .i64 0,.int .i64 0,.int .i64 0,.int .i64 0,.nsl,.int .i64 0,.bool false]) (.t 38))]
 (oQ [oM 39 0,oM 40 5,oW 41 (.sliceSl 7 (.t 39) none (some (.t 40))),oM 4 41]
 .ret))
def P5:aK:={ntmps:=42,results:=[.t 4],mode:=.full,body :=
 (oQ [oW 4 (.move (.c .nsl))]
 (oQ [oM 8 0,oM 9 1,oW 10 (.call (oF 165) [.t 8,.t 9]),oM 5 10]
 (.seq (oQ [oM 11 5,oW 12 (.arith .eql (.t 11) (oI (-1)))]
 (.cond (.t 12) (oQ [oM 13 0,oM 4 13]
 .ret) .skip))
 (.seq (oQ [oM 14 5,oW 15 (.arith .add (.t 14) (oI 1)),oM 6 15]
 (.block 0 (.loop Lv)))
 Wg))))}
theorem k6:aD Tryz.prog Tryz.f136 .full=some P5:=by kernel_rfl
def P4:aK:={ntmps:=8,results:=[.t 3],mode:=.pure,body :=
 (oQ [oW 2 (.box 58 7 (.t 0)),oW 3 (.move (oB false))]
 (oQ [oA 4 0 2,oL 5 2 4,oL 6 2 1,oW 7 (.eqa false [1,1] (.t 5) (.t 6)),oM 3 7]
 .ret))}
theorem j9:aD Tryz.prog Tryz.f137 .pure=some P4:=by kernel_rfl
def PX:aI :=
 (oQ [oW 15 (.arith .lss (.t 14) (.t 13))]
 (.seq (.cond (.t 15) .skip (.exit 0))
 (.seq (.block 1 (oQ [oW 16 (.indexAddr 7 (.t 12) (.t 14)),oL 17 7 16,oW 9 (.alloc 58 7 (.agg [.int .i64 0,.int .i64 0,.int .i64 0,.int .i64 0,.nsl,.int .i64 0,.bool false])),oS 7 9 17]
 (oQ [oA 18 5 9,oD 19 18,oW 20 (.arith .neq (.t 19) (oI (-1))),oM 21 20,gA 22 4 9 21 true,gD 23 22 21 true,gM 24 2 21 true,gW 25 (.call (oF 166) [.t 23,.t 24]) 21 true,oW 26 (.pick (.t 21) (.t 25) (oB false))]
 (.cond (.t 26) (.region [oM 27 7,oA 28 5 9,oD 29 28,oW 30 (.buildSlice 3 1 (.int .i64 0) 1 [(0,.t 29)]),oW 31 (.append 3 1 8 (.t 27) (.t 30)),oM 7 31]) .skip))))
 (.region [oW 32 (.arith .add (.t 14) (oI 1)),oM 14 32]))))
def PY:aI :=
 (oQ [oM 33 7,oW 34 (.call (oF 167) [.t 33]),oM 6 34]
 .ret)
def VG:aK:={ntmps:=35,results:=[.t 6],mode:=.pure,body :=
 (oQ [oW 3 (.box 31 6 (.t 0)),oW 4 (.box 24 2 (.t 1)),oW 6 (.move (.c .nsl))]
 (oQ [oW 7 (.move (.c .nsl))]
 (.seq (oQ [oL 10 6 3,oL 11 2 4,oW 12 (.call (oF 14) [.t 10,.t 11]),oW 13 (.len 1 (.t 12)),oW 14 (.move (oI 0))]
 (.block 0 (.loop PX)))
 PY)))}
theorem j8:aD Tryz.prog Tryz.f138 .pure=some VG:=by kernel_rfl
def PV:aI :=
 (oQ [oW 12 (.arith .lss (.t 11) (.t 10))]
 (.seq (.cond (.t 12) .skip (.exit 0))
 (.seq (.block 1 (oQ [oW 13 (.indexAddr 3 (.t 9) (.t 11)),oL 14 3 13,oW 7 (.alloc 102 3 (.agg [.int .i64 0,.int .i64 0,.nsl])),oS 3 7 14]
 (oQ [oA 15 2 7,oD 16 15,oM 17 1,oW 18 (.call (oF 166) [.t 16,.t 17])]
 (.cond (.t 18) (.region [oM 19 5,oA 20 0 7,oA 21 0 20,oD 22 21,oW 23 (.buildSlice 3 1 (.int .i64 0) 1 [(0,.t 22)]),oW 24 (.append 3 1 8 (.t 19) (.t 23)),oM 5 24]) .skip))))
 (.region [oW 25 (.arith .add (.t 11) (oI 1)),oM 11 25]))))
def PW:aI :=
 (oQ [oM 26 5,oW 27 (.call (oF 167) [.t 26]),oM 4 27]
 .ret)
def VF:aK:={ntmps:=28,results:=[.t 4],mode:=.pure,body :=
 (oQ [oW 2 (.box 31 6 (.t 0)),oW 4 (.move (.c .nsl))]
 (oQ [oW 5 (.move (.c .nsl))]
 (.seq (oQ [oA 8 5 2,oD 9 8,oW 10 (.len 1 (.t 9)),oW 11 (.move (oI 0))]
 (.block 0 (.loop PV)))
 PW)))}
theorem j7:aD Tryz.prog Tryz.f139 .pure=some VF:=by kernel_rfl
def CT:aK:={ntmps:=15,results:=[.t 6],mode:=.full,body :=
 (oQ [oW 6 (.move (oB false))]
 (oQ [oM 7 0,oW 8 (.nilCheck (.t 7)),oA 9 0 8,oD 10 9,oM 11 1,oM 12 2,oW 13 (.build [.int .i64 0,.int .i64 0] [(0,1,.t 11),(1,1,.t 12)]),oW 14 (.call (oF 168) [.t 10,.t 13]),oM 6 14]
 .ret))}
theorem j6:aD Tryz.prog Tryz.f140 .full=some CT:=by kernel_rfl
def Lu:aI :=
 (oQ [oW 12 (.arith .lss (.t 11) (.t 10))]
 (.seq (.cond (.t 12) .skip (.exit 0))
 (.seq (.block 1 (oQ [oW 13 (.indexAddr 1 (.t 9) (.t 11)),oD 14 13,oM 5 14]
 (oQ [oM 15 3,oM 16 5,oW 17 (.len 1 (.t 16)),oW 18 (.arith .add (.t 15) (.t 17)),oM 3 18]
 (oQ [oM 19 3,oW 20 (.arith .lss (.t 19) (oI 0))]
 (.cond (.t 20) (.region [oW 21 (.makeIface 9 (.c (.str [108,101,110,32,111,117,116,32,111,102,32,114,97,110,103,101]))),oZ (.extract (.c .nilp) 0)]) .skip)))))
 (.region [oW 22 (.arith .add (.t 11) (oI 1)),oM 11 22]))))
def wX:aI :=
 (oQ [oW 28 (.arith .lss (.t 27) (.t 26))]
 (.seq (.cond (.t 28) .skip (.exit 2))
 (.seq (.block 3 (oQ [oW 29 (.indexAddr 1 (.t 25) (.t 27)),oD 30 29,oM 8 30]
 (.region [oM 31 6,oM 32 8,oW 33 (.append 52 7 88 (.t 31) (.t 32)),oM 6 33])))
 (.region [oW 34 (.arith .add (.t 27) (oI 1)),oM 27 34]))))
def Wf:aI :=
 (oQ [oM 35 6,oM 2 35]
 .ret)
def We:aI :=
 (oQ [oM 23 3,oW 24 (.call (oF 169) [.c .nsl,.t 23]),oM 6 24]
 (.seq (oQ [oM 25 0,oW 26 (.len 1 (.t 25)),oW 27 (.move (oI 0))]
 (.block 2 (.loop wX)))
 Wf))
def P3:aK:={ntmps:=36,results:=[.t 2],mode:=.pure,body :=
 (oQ [oW 2 (.move (.c .nsl))]
 (oQ [oW 3 (.move (oI 0))]
 (.seq (oQ [oM 9 0,oW 10 (.len 1 (.t 9)),oW 11 (.move (oI 0))]
 (.block 0 (.loop Lu)))
 We)))}
theorem j5:aD Tryz.prog Tryz.f141 .pure=some P3:=by kernel_rfl
def Ad:aK:={ntmps:=6,results:=[.t 2],mode:=.pure,body :=
 (oQ [oW 2 (.move (oB false))]
 (oQ [oM 3 0,oM 4 0,oW 5 (.arith .neq (.t 3) (.t 4)),oM 2 5]
 .ret))}
theorem TC:aD Tryz.prog Tryz.f142 .pure=some Ad:=by kernel_rfl
def PU:aI :=
 (.seq (oQ [oM 7 2,oM 8 3,oW 9 (.arith .lss (.t 7) (.t 8))]
 (.cond (.t 9) .skip (.exit 0)))
 (.seq (.block 1 (.draw [oRM 18 0,oRM 19 3,oR 20 (.indexAddr 4 (.t 18) (.t 19)),oRL 21 4 20,oRM 22 0,oRM 23 2,oR 24 (.indexAddr 4 (.t 22) (.t 23)),oRL 25 4 24,oRM 14 0,oRM 15 2,oR 26 (.indexAddr 4 (.t 14) (.t 15)),oS 4 26 21,oRM 16 0,oRM 17 3,nK 27 (.indexAddr 4 (.t 16) (.t 17)) .read 1,⟨none,.store 4 (.t 27) (.t 25),none,.write,1,false⟩]))
 (.region [oM 10 2,oW 11 (.arith .add (.t 10) (oI 1)),oM 12 3,oW 13 (.arith .sub (.t 12) (oI 1)),oM 2 11,oM 3 13])))
def VE:aK:={ntmps:=28,results:=[],mode:=.full,body :=
 (oQ [oM 4 0,oW 5 (.len 1 (.t 4)),oW 6 (.arith .sub (.t 5) (oI 1)),oW 2 (.move (oI 0)),oM 3 6]
 (.block 0 (.loop PU)))}
theorem i9:aD Tryz.prog Tryz.f143 .full=some VE:=by kernel_rfl
def PT:aI :=
 (.seq (oQ [oM 7 2,oM 8 3,oW 9 (.arith .lss (.t 7) (.t 8))]
 (.cond (.t 9) .skip (.exit 0)))
 (.seq (.block 1 (.draw [oRM 18 0,oRM 19 3,oR 20 (.indexAddr 2 (.t 18) (.t 19)),oRL 21 2 20,oRM 22 0,oRM 23 2,oR 24 (.indexAddr 2 (.t 22) (.t 23)),oRL 25 2 24,oRM 14 0,oRM 15 2,oR 26 (.indexAddr 2 (.t 14) (.t 15)),oS 2 26 21,oRM 16 0,oRM 17 3,nK 27 (.indexAddr 2 (.t 16) (.t 17)) .read 1,⟨none,.store 2 (.t 27) (.t 25),none,.write,1,false⟩]))
 (.region [oM 10 2,oW 11 (.arith .add (.t 10) (oI 1)),oM 12 3,oW 13 (.arith .sub (.t 12) (oI 1)),oM 2 11,oM 3 13])))
def VD:aK:={ntmps:=28,results:=[],mode:=.full,body :=
 (oQ [oM 4 0,oW 5 (.len 1 (.t 4)),oW 6 (.arith .sub (.t 5) (oI 1)),oW 2 (.move (oI 0)),oM 3 6]
 (.block 0 (.loop PT)))}
theorem i8:aD Tryz.prog Tryz.f144 .full=some VD:=by kernel_rfl
def VA:aK:={ntmps:=43,results:=[.t 2],mode:=.pure,body :=
 (oQ [oW 1 (.box 98 5 (.t 0)),oW 2 (.move (oB false))]
 (.seq (oQ [oA 3 0 1,oD 4 3,oW 5 (.call (oF 171) [.t 4]),oW 6 (.un .not (.t 5))]
 (.cond (.t 6) (oQ [oW 2 (.move (oB false))]
 .ret) .skip))
 (.seq (oQ [oA 7 1 1,oD 8 7]
 (.block 0 (.seq (.block 3 (.seq (.block 2 (.seq (.block 1 (.seq (.seq (oQ [oW 10 (.arith .eql (.t 8) (oI 1)),oM 9 10]
 (.cond (.t 9) (.exit 1) .skip))
 (.seq (oQ [oW 12 (.arith .eql (.t 8) (oI 3)),oM 11 12]
 (.cond (.t 11) (.exit 2) .skip))
 (oQ [oW 14 (.arith .eql (.t 8) (oI 2)),oM 13 14]
 (.cond (.t 13) (.exit 3) .skip))))
 (.exit 0)))
 (.seq (oQ [oA 15 2 1,oD 16 15,oA 17 3 1,oD 18 17,oW 19 (.arith .leq (.t 16) (.t 18)),oM 20 19,gA 21 4 1 20 true,gD 22 21 20 true,gW 23 (.arith .eql (.t 22) (.c (.str []))) 20 true,oW 24 (.pick (.t 20) (.t 23) (oB false)),oM 2 24]
 .ret)
 (.exit 0))))
 (oQ [oA 25 4 1,oD 26 25,oW 27 (.len 0 (.t 26)),oW 28 (.arith .eql (.t 27) (oI 12))]
 (.cond (.t 28) (oQ [oW 2 (.move (oB false))]
 .ret) .skip))))
 (.seq (oQ [oA 29 2 1,oD 30 29,oW 31 (.arith .eql (.t 30) (oI 0)),oM 32 31,gA 33 3 1 32 true,gD 34 33 32 true,gW 35 (.arith .eql (.t 34) (oI 0)) 32 true,oW 36 (.pick (.t 32) (.t 35) (oB false)),oM 37 36,gA 38 4 1 37 true,gD 39 38 37 true,gW 40 (.len 0 (.t 39)) 37 true,gW 41 (.arith .leq (.t 40) (oI 12)) 37 true,oW 42 (.pick (.t 37) (.t 41) (oB false)),oM 2 42]
 .ret)
 (.exit 0)))))
 (oQ [oW 2 (.move (oB false))]
 .ret))))}
theorem i7:aD Tryz.prog Tryz.f151 .pure=some VA:=by kernel_rfl
def PR:aI :=
 (.seq (oQ [oM 15 9,oM 16 10,oW 17 (.arith .lss (.t 15) (.t 16))]
 (.cond (.t 17) .skip (.exit 0)))
 (.block 1 (oQ [oM 18 9,oM 19 10,oW 20 (.arith .add (.t 18) (.t 19)),oW 21 (.conv .u64 (.t 20)),oW 22 (.arith .shr (.t 21) (.c (.int .u64 1))),oW 23 (.conv .i64 (.t 22)),oM 11 23]
 (oQ [oM 24 2,oM 25 0,oM 26 11,oW 27 (.indexAddr 5 (.t 25) (.t 26)),oL 28 5 27,oM 29 1,oW 30 (.call (.t 24) [.t 28,.t 29]),oW 31 (.arith .lss (.t 30) (oI 0))]
 (.cond (.t 31) (.region [oM 32 11,oW 33 (.arith .add (.t 32) (oI 1)),oM 9 33]) (.region [oM 34 11,oM 10 34]))))))
def PS:aI :=
 (oQ [oM 35 9,oM 36 9,oM 37 8,oW 38 (.arith .lss (.t 36) (.t 37)),oM 39 38,gM 40 2 39 true,gM 41 0 39 true,gM 42 9 39 true,gW 43 (.indexAddr 5 (.t 41) (.t 42)) 39 true,gL 44 5 43 39 true,gM 45 1 39 true,gW 46 (.call (.t 40) [.t 44,.t 45]) 39 true,gW 47 (.arith .eql (.t 46) (oI 0)) 39 true,oW 48 (.pick (.t 39) (.t 47) (oB false)),oM 6 35,oM 7 48]
 .ret)
def UZ:aK:={ntmps:=49,results:=[.t 6,.t 7],mode:=.pure,body :=
 (oQ [oW 6 (.move (oI 0)),oW 7 (.move (oB false))]
 (oQ [oM 12 0,oW 13 (.len 1 (.t 12)),oM 8 13]
 (oQ [oM 14 8,oW 9 (.move (oI 0)),oM 10 14]
 (.seq (.block 0 (.loop PR))
 PS))))}
theorem i6:aD Tryz.prog Tryz.f152 .pure=some UZ:=by kernel_rfl
def UY:aK:={ntmps:=9,results:=[.t 4],mode:=.pure,body :=
 (oQ [oW 2 (.box 98 5 (.t 0)),oW 4 (.move (oI 0))]
 (oQ [oA 5 0 2,oD 6 5,oM 7 1,oW 8 (.call (oF 154) [.t 6,.t 7]),oM 4 8]
 .ret))}
theorem TB:aD Tryz.prog Tryz.f153 .pure=some UY:=by kernel_rfl
def UX:aK:={ntmps:=8,results:=[.t 4],mode:=.pure,body :=
 (oQ [oW 4 (.move (oI 0))]
 (oQ [oM 5 0,oM 6 1,oW 7 (.call (oF 172) [.t 5,.t 6]),oM 4 7]
 .ret))}
theorem TA:aD Tryz.prog Tryz.f154 .pure=some UX:=by kernel_rfl
def UW:aK:={ntmps:=69,results:=[(.cell 4 (some 5)),.t 5],mode:=.pure,body :=
 (oQ [oW 2 (.box 98 5 (.t 0)),oW 3 (.box 98 5 (.t 1)),oW 4 (.alloc 98 5 (.agg [.str [],.int .i64 0,.int .i64 0,.int .i64 0,.str []])),oW 5 (.move (oB false))]
 (oQ [oW 7 (.build [.str [],.int .i64 0,.int .i64 0,.int .i64 0,.str []] []),oW 6 (.alloc 98 5 (.agg [.str [],.int .i64 0,.int .i64 0,.int .i64 0,.str []])),oS 5 6 7]
 (.seq (oQ [oA 8 1 2,oD 9 8,oA 10 1 3,oD 11 10,oW 12 (.arith .gtr (.t 9) (.t 11))]
 (.cond (.t 12) (.region [oL 13 5 3,oL 14 5 2,oS 5 2 13,oS 5 3 14]) .skip))
 (.seq (oQ [oA 15 1 2,oD 16 15]
 (.block 0 (.seq (.block 3 (.seq (.block 2 (.seq (.block 1 (.seq (.seq (oQ [oW 18 (.arith .eql (.t 16) (oI 1)),oM 17 18]
 (.cond (.t 17) (.exit 1) .skip))
 (.seq (oQ [oW 20 (.arith .eql (.t 16) (oI 3)),oM 19 20]
 (.cond (.t 19) (.exit 2) .skip))
 (oQ [oW 22 (.arith .eql (.t 16) (oI 2)),oM 21 22]
 (.cond (.t 21) (.exit 3) .skip))))
 (.exit 0)))
 (.seq (.seq (oQ [oA 23 1 3,oD 24 23,oW 25 (.arith .neq (.t 24) (oI 1)),oM 26 25,gA 27 2 2 26 false,gD 28 27 26 false,gA 29 2 3 26 false,gD 30 29 26 false,gW 31 (.minmax true (.t 28) (.t 30)) 26 false,gA 32 3 2 26 false,gD 33 32 26 false,gA 34 3 3 26 false,gD 35 34 26 false,gW 36 (.minmax false (.t 33) (.t 35)) 26 false,gW 37 (.arith .gtr (.t 31) (.t 36)) 26 false,oW 38 (.pick (.t 26) (oB true) (.t 37))]
 (.cond (.t 38) (oQ [oL 39 5 6,oS 5 4 39,oW 5 (.move (oB false))]
 .ret) .skip))
 (.seq (.draw [oRA 40 2 2,⟨(some 41),.load none (.t 40),none,.read,0,true⟩,oRA 42 2 3,⟨(some 43),.load none (.t 42),none,.read,0,true⟩,oRA 45 3 2,⟨(some 46),.load none (.t 45),none,.read,0,true⟩,oRA 47 3 3,oRD 48 47,oR 44 (.minmax true (.t 41) (.t 43)),oRA 50 2 2,⟨none,.store 1 (.t 50) (.t 44),none,.create,0,false⟩,oR 49 (.minmax false (.t 46) (.t 48)),nK 51 (.fieldAddr 3 (.t 2)) .read 1,⟨none,.store 1 (.t 51) (.t 49),none,.write,1,false⟩])
 (oQ [oL 52 5 2,oS 5 4 52,oW 5 (.move (oB true))]
 .ret)))
 (.exit 0))))
 (oQ [oA 53 4 2,oD 54 53,oW 55 (.len 0 (.t 54)),oA 56 4 3,oD 57 56,oW 58 (.len 0 (.t 57)),oW 59 (.arith .lss (.t 55) (.t 58))]
 (.cond (.t 59) (.region [oL 60 5 3,oL 61 5 2,oS 5 2 60,oS 5 3 61]) .skip))))
 (.seq (.seq (.draw [oRL 62 5 3,oRA 63 4 2,oRD 64 63,nK 65 (.call (oF 97) [.t 64]) .create 0,nK 66 (.call (oF 96) [.t 62,.t 65]) .write 1])
 (.cond (.t 66) (oQ [oL 67 5 2,oS 5 4 67,oW 5 (.move (oB true))]
 .ret) .skip))
 (.exit 0)))))
 (oQ [oL 68 5 6,oS 5 4 68,oW 5 (.move (oB false))]
 .ret)))))}
theorem i5:aD Tryz.prog Tryz.f155 .pure=some UW:=by kernel_rfl
def PQ:aK:={ntmps:=95,results:=[.t 6],mode:=.split,body :=
 (oQ [oW 6 (.move (.c .nsl))]
 (oQ [oM 10 0,oM 11 1,oW 12 (.sliceSl 5 (.t 10) (some (.t 11)) none)]
 (oQ [oM 13 2,oW 14 (.len 1 (.t 13)),oM 7 14]
 (.seq (oQ [oM 15 7,oW 16 (.arith .eql (.t 15) (oI 0))]
 (.cond (.t 16) (oQ [oM 17 0,oM 6 17]
 .ret) .skip))
 (oQ [oM 18 0,oW 19 (.len 1 (.t 18)),oM 8 19]
 (.seq (oQ [oM 20 1,oM 21 8,oW 22 (.arith .eql (.t 20) (.t 21))]
 (.cond (.t 22) (oQ [oM 23 0,oM 24 2,oW 25 (.append 98 5 56 (.t 23) (.t 24)),oM 6 25]
 .ret) .skip))
 (.seq (oQ [oM 26 8,oM 27 7,oW 28 (.arith .add (.t 26) (.t 27)),oM 29 0,oW 30 (.cap (.t 29)),oW 31 (.arith .gtr (.t 28) (.t 30))]
 (.cond (.t 31) (oQ [oM 32 0,oM 33 1,oW 34 (.sliceSl 5 (.t 32) none (some (.t 33))),oM 35 8,oM 36 7,oW 37 (.arith .add (.t 35) (.t 36)),oM 38 1,oW 39 (.arith .sub (.t 37) (.t 38)),oW 40 (.appendZ 98 5 56 (.agg [.str [],.int .i64 0,.int .i64 0,.int .i64 0,.str []]) (.t 34) (.t 39)),oM 9 40]
 (oQ [oM 41 9,oM 42 1,oW 43 (.sliceSl 5 (.t 41) (some (.t 42)) none),oM 44 2,oW 45 (.copy 5 (.t 43) (.t 44))]
 (.seq (.draw [oRM 46 9,oRM 47 1,oRM 48 7,oR 49 (.arith .add (.t 47) (.t 48)),oR 50 (.sliceSl 5 (.t 46) (some (.t 49)) none),oRM 51 0,oRM 52 1,oR 53 (.sliceSl 5 (.t 51) (some (.t 52)) none),oW 54 (.copy 5 (.t 50) (.t 53))])
 (oQ [oM 55 9,oM 6 55]
 .ret)))) .skip))
 (oQ [oM 56 0,oM 57 8,oM 58 7,oW 59 (.arith .add (.t 57) (.t 58)),oW 60 (.sliceSl 5 (.t 56) none (some (.t 59))),oM 0 60]
 (.seq (oQ [oM 61 2,oM 62 0,oM 63 1,oM 64 7,oW 65 (.arith .add (.t 63) (.t 64)),oW 66 (.sliceSl 5 (.t 62) (some (.t 65)) none),oW 67 (.call (oF 173) [.t 61,.t 66]),oW 68 (.un .not (.t 67))]
 (.cond (.t 68) (.seq (.draw [oRM 69 0,oRM 70 1,oRM 71 7,oR 72 (.arith .add (.t 70) (.t 71)),oR 73 (.sliceSl 5 (.t 69) (some (.t 72)) none),oRM 74 0,oRM 75 1,oR 76 (.sliceSl 5 (.t 74) (some (.t 75)) none),oW 77 (.copy 5 (.t 73) (.t 76))])
 (oQ [oM 78 0,oM 79 1,oW 80 (.sliceSl 5 (.t 78) (some (.t 79)) none),oM 81 2,oW 82 (.copy 5 (.t 80) (.t 81))]
 (oQ [oM 83 0,oM 6 83]
 .ret))) .skip))
 (oQ [oM 84 0,oM 85 8,oW 86 (.sliceSl 5 (.t 84) (some (.t 85)) none),oM 87 2,oW 88 (.copy 5 (.t 86) (.t 87))]
 (oQ [oM 89 0,oM 90 1,oW 91 (.sliceSl 5 (.t 89) (some (.t 90)) none),oM 92 7,oW 93 (.call (oF 174) [.t 91,.t 92])]
 (oQ [oM 94 0,oM 6 94]
 .ret))))))))))))}
theorem d9:aD Tryz.prog Tryz.f156 .split=some PQ:=by kernel_rfl
def UV:aK:={ntmps:=5,results:=[(.cell 2 (some 3))],mode:=.pure,body :=
 (oQ [oW 2 (.alloc 167 3 (.agg [.bool false,.int .i64 0,.str []]))]
 (oQ [oM 3 0,oW 4 (.build [.bool false,.int .i64 0,.str []] [(1,1,.t 3)]),oS 3 2 4]
 .ret))}
theorem d8:aD Tryz.prog Tryz.f157 .pure=some UV:=by kernel_rfl
def PO:aI :=
 (.seq (oQ [oM 15 9,oM 16 10,oW 17 (.arith .lss (.t 15) (.t 16))]
 (.cond (.t 17) .skip (.exit 0)))
 (.block 1 (oQ [oM 18 9,oM 19 10,oW 20 (.arith .add (.t 18) (.t 19)),oW 21 (.conv .u64 (.t 20)),oW 22 (.arith .shr (.t 21) (.c (.int .u64 1))),oW 23 (.conv .i64 (.t 22)),oM 11 23]
 (.seq (.draw [oRM 25 0,oRM 26 11,oR 27 (.indexAddr 7 (.t 25) (.t 26)),oRL 28 7 27,oRL 29 2 4,oRM 24 2,oW 30 (.call (.t 24) [.t 28,.t 29]),nK 31 (.arith .lss (.t 30) (oI 0)) .read 1])
 (.cond (.t 31) (.region [oM 32 11,oW 33 (.arith .add (.t 32) (oI 1)),oM 9 33]) (.region [oM 34 11,oM 10 34]))))))
def PP:aI :=
 (.seq (.draw [oRM 36 9,oRM 37 8,oR 38 (.arith .lss (.t 36) (.t 37)),oRM 39 38,rM 41 0 39 true,rM 42 9 39 true,rW 43 (.indexAddr 7 (.t 41) (.t 42)) 39 true,rL 44 7 43 39 true,rL 45 2 4 39 true,rM 40 2 39 true,gW 46 (.call (.t 40) [.t 44,.t 45]) 39 true,oRM 35 9,⟨(some 47),.arith .eql (.t 46) (oI 0),(some (39,true)),.read,1,false⟩,nK 48 (.pick (.t 39) (.t 47) (oB false)) .read 1,nK 6 (.move (.t 35)) .read 1,nK 7 (.move (.t 48)) .read 1])
 .ret)
def UU:aK:={ntmps:=49,results:=[.t 6,.t 7],mode:=.pure,body :=
 (oQ [oW 4 (.box 24 2 (.t 1)),oW 6 (.move (oI 0)),oW 7 (.move (oB false))]
 (oQ [oM 12 0,oW 13 (.len 1 (.t 12)),oM 8 13]
 (oQ [oM 14 8,oW 9 (.move (oI 0)),oM 10 14]
 (.seq (.block 0 (.loop PO))
 PP))))}
theorem d7:aD Tryz.prog Tryz.f158 .pure=some UU:=by kernel_rfl
end Go.Dm.Tc
