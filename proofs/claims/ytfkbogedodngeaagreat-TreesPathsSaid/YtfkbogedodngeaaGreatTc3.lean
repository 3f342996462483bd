/- A part of the proof. -/
import Derived.Test.YtfkbogedodngeaaGreatTc0
import Derived.Test.YtfkbogedodngeaaGreatMm4
import Derived.Test.YtfkbogedodngeaaGreatRows
import Derived.KernelRfl
namespace Go.Dm.Tc
open Go.Proofs
def UT:aK:={ntmps:=34,results:=[.t 5],mode:=.pure,body :=
 (oQ [oW 3 (.box 58 7 (.t 0)),oW 4 (.box 24 2 (.t 1)),oW 5 (.move (oI 0))]
 (.seq (.block 0 (oQ [oA 7 0 3,oL 8 2 7,oL 9 2 2,oW 10 (.eqa false [1,1] (.t 8) (.t 9)),oM 11 10,gA 12 2 3 11 true,gL 13 2 12 11 true,gL 14 2 4 11 true,gW 15 (.eqa false [1,1] (.t 13) (.t 14)) 11 true,oW 16 (.pick (.t 11) (.t 15) (oB false)),oM 6 16]
 (.cond (.t 6) (oQ [oW 5 (.move (oI 0))]
 .ret) (oQ [oA 18 0 3,oL 19 2 18,oL 20 2 2,oW 21 (.call (oF 88) [.t 19,.t 20]),oM 22 21,gA 23 0 3 22 false,gL 24 2 23 22 false,gL 25 2 2 22 false,gW 26 (.eqa false [1,1] (.t 24) (.t 25)) 22 false,gM 27 26 22 false,gA 28 2 3 27 true,gL 29 2 28 27 true,gL 30 2 4 27 true,gW 31 (.call (oF 88) [.t 29,.t 30]) 27 true,gW 32 (.pick (.t 27) (.t 31) (oB false)) 22 false,oW 33 (.pick (.t 22) (oB true) (.t 32)),oM 17 33]
 (.cond (.t 17) (oQ [oW 5 (.move (oI (-1)))]
 .ret) .skip)))))
 (oQ [oW 5 (.move (oI 1))]
 .ret)))}
theorem d6:aD Tryz.prog Tryz.f159 .pure=some UT:=by kernel_rfl
def UO:aK:={ntmps:=9,results:=[.t 4],mode:=.pure,body :=
 (oQ [oW 4 (.move (oB false))]
 (oQ [oM 5 0,oM 6 1,oW 7 (.call (oF 165) [.t 5,.t 6]),oW 8 (.arith .geq (.t 7) (oI 0)),oM 4 8]
 .ret))}
theorem d4:aD Tryz.prog Tryz.f160 .pure=some UO:=by kernel_rfl
def UN:aK:={ntmps:=12,results:=[.t 3],mode:=.pure,body :=
 (oQ [oW 2 (.box 58 7 (.t 0)),oW 3 (.move (oB false))]
 (oQ [oA 4 6 2,oD 5 4,oM 6 5,gA 7 4 2 6 true,gD 8 7 6 true,gD 9 1 6 true,gW 10 (.call (oF 15) [.t 8,.t 9]) 6 true,oW 11 (.pick (.t 6) (.t 10) (oB false)),oM 3 11]
 .ret))}
theorem c9:aD Tryz.prog Tryz.f161 .pure=some UN:=by kernel_rfl
def UM:aK:={ntmps:=10,results:=[],mode:=.full,body :=
 (.region [oM 4 0,oM 5 0,oW 6 (.len 1 (.t 5)),oM 7 1,oW 8 (.arith .sub (.t 6) (.t 7)),oW 9 (.call (oF 175) [.t 4,.t 8])])}
theorem b9:aD Tryz.prog Tryz.f163 .full=some UM:=by kernel_rfl
def Lt:aI :=
 (oQ [oW 9 (.arith .lss (.t 8) (.t 7))]
 (.seq (.cond (.t 9) .skip (.exit 0))
 (.seq (.block 1 (oQ [oM 10 8,oM 5 10]
 (oQ [oM 11 1,oM 12 0,oM 13 5,oW 14 (.indexAddr 7 (.t 12) (.t 13)),oL 15 7 14,oW 16 (.call (.t 11) [.t 15])]
 (.cond (.t 16) (oQ [oM 17 5,oM 4 17]
 .ret) .skip))))
 (.region [oW 18 (.arith .add (.t 8) (oI 1)),oM 8 18]))))
def Wd:aI :=
 (oQ [oW 4 (.move (oI (-1)))]
 .ret)
def P2:aK:={ntmps:=19,results:=[.t 4],mode:=.pure,body :=
 (oQ [oW 4 (.move (oI 0))]
 (.seq (oQ [oM 6 0,oW 7 (.len 1 (.t 6)),oW 8 (.move (oI 0))]
 (.block 0 (.loop Lt)))
 Wd))}
theorem b8:aD Tryz.prog Tryz.f165 .pure=some P2:=by kernel_rfl
def PM:aI :=
 (oQ [oW 12 (.arith .lss (.t 11) (.t 10))]
 (.seq (.cond (.t 12) .skip (.exit 0))
 (.seq (.block 1 (oQ [oW 13 (.indexAddr 5 (.t 9) (.t 11)),oL 14 5 13,oW 6 (.alloc 98 5 (.agg [.str [],.int .i64 0,.int .i64 0,.int .i64 0,.str []])),oS 5 6 14]
 (oQ [oM 16 1,oA 17 0 6,oD 18 17,oW 19 (.call (oF 184) [.t 16,.t 18]),oM 15 19,oX 20 15 0,oX 21 15 1,oW 7 (.alloc 167 3 (.agg [.bool false,.int .i64 0,.str []])),oS 3 7 20,oM 8 21]
 (oQ [oM 22 8,oW 23 (.un .not (.t 22)),oM 24 23,gL 25 5 6 24 false,gL 26 3 7 24 false,gW 27 (.call (oF 96) [.t 25,.t 26]) 24 false,gW 28 (.un .not (.t 27)) 24 false,oW 29 (.pick (.t 24) (oB true) (.t 28))]
 (.cond (.t 29) (oQ [oW 4 (.move (oB false))]
 .ret) .skip)))))
 (.region [oW 30 (.arith .add (.t 11) (oI 1)),oM 11 30]))))
def PN:aI :=
 (oQ [oW 4 (.move (oB true))]
 .ret)
def UL:aK:={ntmps:=31,results:=[.t 4],mode:=.pure,body :=
 (oQ [oW 4 (.move (oB false))]
 (.seq (oQ [oM 9 0,oW 10 (.len 1 (.t 9)),oW 11 (.move (oI 0))]
 (.block 0 (.loop PM)))
 PN))}
theorem b7:aD Tryz.prog Tryz.f166 .pure=some UL:=by kernel_rfl
def UK:aK:={ntmps:=7,results:=[.t 2],mode:=.full,body :=
 (oQ [oW 2 (.move (.c .nsl))]
 (oQ [oM 3 0,oW 4 (.call (oF 37) [.t 3])]
 (oQ [oM 5 0,oW 6 (.call (oF 38) [.t 5]),oM 2 6]
 .ret)))}
theorem b6:aD Tryz.prog Tryz.f167 .full=some UK:=by kernel_rfl
def P1:aK:={ntmps:=9,results:=[.t 4],mode:=.pure,body :=
 (oQ [oW 3 (.box 76 2 (.t 1)),oW 4 (.move (oB false))]
 (oQ [oM 5 0,oL 6 2 3,oW 7 (.call (oF 185) [.t 5,.t 6]),oW 8 (.arith .geq (.t 7) (oI 0)),oM 4 8]
 .ret))}
theorem a7:aD Tryz.prog Tryz.f168 .pure=some P1:=by kernel_rfl
def Wc:aK:={ntmps:=27,results:=[.t 4],mode:=.full,body :=
 (oQ [oW 4 (.move (.c .nsl))]
 (.seq (oQ [oM 5 1,oW 6 (.arith .lss (.t 5) (oI 0))]
 (.cond (.t 6) (.region [oW 7 (.makeIface 9 (.c (.str [99,97,110,110,111,116,32,98,101,32,110,101,103,97,116,105,118,101]))),oZ (.extract (.c .nilp) 0)]) .skip))
 (.seq (oQ [oM 8 1,oM 9 0,oW 10 (.cap (.t 9)),oM 11 0,oW 12 (.len 1 (.t 11)),oW 13 (.arith .sub (.t 10) (.t 12)),oW 14 (.arith .sub (.t 8) (.t 13)),oM 1 14]
 (oQ [oM 15 1,oW 16 (.arith .gtr (.t 15) (oI 0))]
 (.cond (.t 16) (.region [oM 17 0,oM 18 0,oW 19 (.cap (.t 18)),oW 20 (.sliceSl 7 (.t 17) none (some (.t 19))),oM 21 1,oW 22 (.appendZ 52 7 88 (.agg [.int .i64 0,.int .i64 0,.int .i64 0,.int .i64 0,.int .i64 0,.nsl,.nsl]) (.t 20) (.t 21)),oM 23 0,oW 24 (.len 1 (.t 23)),oW 25 (.sliceSl 7 (.t 22) none (some (.t 24))),oM 0 25]) .skip)))
 (oQ [oM 26 0,oM 4 26]
 .ret))))}
theorem a6:aD Tryz.prog Tryz.f169 .full=some Wc:=by kernel_rfl
def PJ:aI :=
 (oQ [oW 7 (.arith .lss (.t 6) (.t 5))]
 (.seq (.cond (.t 7) .skip (.exit 0))
 (.seq (.block 1 (oQ [oM 8 6,oM 3 8]
 (oQ [oM 9 0,oM 10 3,oW 11 (.indexStr (.t 9) (.t 10)),oW 12 (.arith .lss (.t 11) (.c (.int .u8 97))),oM 13 12,gM 14 0 13 false,gM 15 3 13 false,gW 16 (.indexStr (.t 14) (.t 15)) 13 false,gW 17 (.arith .gtr (.t 16) (.c (.int .u8 122))) 13 false,oW 18 (.pick (.t 13) (oB true) (.t 17))]
 (.cond (.t 18) (oQ [oW 2 (.move (oB false))]
 .ret) .skip))))
 (.region [oW 19 (.arith .add (.t 6) (oI 1)),oM 6 19]))))
def PL:aI :=
 (oQ [oM 20 0,oW 21 (.arith .neq (.t 20) (.c (.str []))),oM 22 21,gM 23 0 22 true,gW 24 (.len 0 (.t 23)) 22 true,gW 25 (.arith .leq (.t 24) (oI 12)) 22 true,oW 26 (.pick (.t 22) (.t 25) (oB false)),oM 2 26]
 .ret)
def UJ:aK:={ntmps:=27,results:=[.t 2],mode:=.pure,body :=
 (oQ [oW 2 (.move (oB false))]
 (.seq (oQ [oM 4 0,oW 5 (.len 0 (.t 4)),oW 6 (.move (oI 0))]
 (.block 0 (.loop PJ)))
 PL))}
theorem ZZ:aD Tryz.prog Tryz.f171 .pure=some UJ:=by kernel_rfl
def UI:aK:={ntmps:=8,results:=[.t 4],mode:=.pure,body :=
 (oQ [oW 4 (.move (oI 0))]
 (oQ [oM 5 0,oM 6 1,oW 7 (.call (oF 186) [.t 5,.t 6]),oM 4 7]
 .ret))}
theorem ZY:aD Tryz.prog Tryz.f172 .pure=some UI:=by kernel_rfl
def UH:aK:={ntmps:=10,results:=[],mode:=.full,body :=
 (.region [oM 4 0,oM 5 0,oW 6 (.len 1 (.t 5)),oM 7 1,oW 8 (.arith .sub (.t 6) (.t 7)),oW 9 (.call (oF 187) [.t 4,.t 8])])}
theorem ZX:aD Tryz.prog Tryz.f174 .full=some UH:=by kernel_rfl
def UG:aK:={ntmps:=14,results:=[],mode:=.full,body :=
 (oQ [oM 4 0,oM 5 1,oW 6 (.sliceSl 7 (.t 4) none (some (.t 5))),oW 7 (.call (oF 188) [.t 6])]
 (oQ [oM 8 0,oM 9 1,oW 10 (.sliceSl 7 (.t 8) (some (.t 9)) none),oW 11 (.call (oF 188) [.t 10])]
 (.region [oM 12 0,oW 13 (.call (oF 188) [.t 12])])))}
theorem ZW:aD Tryz.prog Tryz.f175 .full=some UG:=by kernel_rfl
def PH:aI :=
 (oQ [oW 11 (.arith .lss (.t 10) (.t 9))]
 (.seq (.cond (.t 11) .skip (.exit 0))
 (.seq (.block 1 (oQ [oW 12 (.indexAddr 4 (.t 8) (.t 10)),oL 13 4 12,oW 7 (.alloc 238 4 (.agg [.str [],.bool false,.int .i64 0,.str []])),oS 4 7 13]
 (oQ [oA 14 0 7,oD 15 14,oM 16 1,oW 17 (.arith .eql (.t 15) (.t 16))]
 (.cond (.t 17) (oQ [oA 18 1 7,oL 19 3 18,oS 3 4 19,oW 5 (.move (oB true))]
 .ret) .skip))))
 (.region [oW 20 (.arith .add (.t 10) (oI 1)),oM 10 20]))))
def PI:aI :=
 (oQ [oW 21 (.build [.bool false,.int .i64 0,.str []] []),oS 3 4 21,oW 5 (.move (oB false))]
 .ret)
def UF:aK:={ntmps:=22,results:=[(.cell 4 (some 3)),.t 5],mode:=.pure,body :=
 (oQ [oW 4 (.alloc 167 3 (.agg [.bool false,.int .i64 0,.str []])),oW 5 (.move (oB false))]
 (.seq (oQ [oM 8 0,oW 9 (.len 1 (.t 8)),oW 10 (.move (oI 0))]
 (.block 0 (.loop PH)))
 PI))}
theorem ZV:aD Tryz.prog Tryz.f184 .pure=some UF:=by kernel_rfl
def Ls:aI :=
 (oQ [oW 9 (.arith .lss (.t 8) (.t 7))]
 (.seq (.cond (.t 9) .skip (.exit 0))
 (.seq (.block 1 (oQ [oM 10 8,oM 5 10]
 (.seq (.draw [oRL 11 2 3,oRM 12 0,oRM 13 5,oR 14 (.indexAddr 2 (.t 12) (.t 13)),oRL 15 2 14,oR 16 (.eqa false [1,1] (.t 11) (.t 15))])
 (.cond (.t 16) (oQ [oM 17 5,oM 4 17]
 .ret) .skip))))
 (.region [oW 18 (.arith .add (.t 8) (oI 1)),oM 8 18]))))
def Wb:aI :=
 (oQ [oW 4 (.move (oI (-1)))]
 .ret)
def P0:aK:={ntmps:=19,results:=[.t 4],mode:=.pure,body :=
 (oQ [oW 3 (.box 76 2 (.t 1)),oW 4 (.move (oI 0))]
 (.seq (oQ [oM 6 0,oW 7 (.len 1 (.t 6)),oW 8 (.move (oI 0))]
 (.block 0 (.loop Ls)))
 Wb))}
theorem ZU:aD Tryz.prog Tryz.f185 .pure=some P0:=by kernel_rfl
def UE:aK:={ntmps:=14,results:=[],mode:=.full,body :=
 (oQ [oM 4 0,oM 5 1,oW 6 (.sliceSl 5 (.t 4) none (some (.t 5))),oW 7 (.call (oF 192) [.t 6])]
 (oQ [oM 8 0,oM 9 1,oW 10 (.sliceSl 5 (.t 8) (some (.t 9)) none),oW 11 (.call (oF 192) [.t 10])]
 (.region [oM 12 0,oW 13 (.call (oF 192) [.t 12])])))}
theorem ZT:aD Tryz.prog Tryz.f187 .full=some UE:=by kernel_rfl
def PG:aI :=
 (.seq (oQ [oM 7 2,oM 8 3,oW 9 (.arith .lss (.t 7) (.t 8))]
 (.cond (.t 9) .skip (.exit 0)))
 (.seq (.block 1 (.draw [oRM 18 0,oRM 19 3,oR 20 (.indexAddr 7 (.t 18) (.t 19)),oRL 21 7 20,oRM 22 0,oRM 23 2,oR 24 (.indexAddr 7 (.t 22) (.t 23)),oRL 25 7 24,oRM 14 0,oRM 15 2,oR 26 (.indexAddr 7 (.t 14) (.t 15)),oS 7 26 21,oRM 16 0,oRM 17 3,nK 27 (.indexAddr 7 (.t 16) (.t 17)) .read 1,⟨none,.store 7 (.t 27) (.t 25),none,.write,1,false⟩]))
 (.region [oM 10 2,oW 11 (.arith .add (.t 10) (oI 1)),oM 12 3,oW 13 (.arith .sub (.t 12) (oI 1)),oM 2 11,oM 3 13])))
def UD:aK:={ntmps:=28,results:=[],mode:=.full,body :=
 (oQ [oM 4 0,oW 5 (.len 1 (.t 4)),oW 6 (.arith .sub (.t 5) (oI 1)),oW 2 (.move (oI 0)),oM 3 6]
 (.block 0 (.loop PG)))}
theorem ZS:aD Tryz.prog Tryz.f188 .full=some UD:=by kernel_rfl
def PF:aI :=
 (.seq (oQ [oM 7 2,oM 8 3,oW 9 (.arith .lss (.t 7) (.t 8))]
 (.cond (.t 9) .skip (.exit 0)))
 (.seq (.block 1 (.draw [oRM 18 0,oRM 19 3,oR 20 (.indexAddr 5 (.t 18) (.t 19)),oRL 21 5 20,oRM 22 0,oRM 23 2,oR 24 (.indexAddr 5 (.t 22) (.t 23)),oRL 25 5 24,oRM 14 0,oRM 15 2,oR 26 (.indexAddr 5 (.t 14) (.t 15)),oS 5 26 21,oRM 16 0,oRM 17 3,nK 27 (.indexAddr 5 (.t 16) (.t 17)) .read 1,⟨none,.store 5 (.t 27) (.t 25),none,.write,1,false⟩]))
 (.region [oM 10 2,oW 11 (.arith .add (.t 10) (oI 1)),oM 12 3,oW 13 (.arith .sub (.t 12) (oI 1)),oM 2 11,oM 3 13])))
def UC:aK:={ntmps:=28,results:=[],mode:=.full,body :=
 (oQ [oM 4 0,oW 5 (.len 1 (.t 4)),oW 6 (.arith .sub (.t 5) (oI 1)),oW 2 (.move (oI 0)),oM 3 6]
 (.block 0 (.loop PF)))}
theorem ZR:aD Tryz.prog Tryz.f192 .full=some UC:=by kernel_rfl
end Go.Dm.Tc
