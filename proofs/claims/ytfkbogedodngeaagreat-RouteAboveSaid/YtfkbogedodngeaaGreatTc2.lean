/- A part of the proof. -/
import Derived.Test.YtfkbogedodngeaaGreatTc0
import Derived.Test.YtfkbogedodngeaaGreatMm4
import Derived.Test.YtfkbogedodngeaaGreatRows
import Derived.KernelRfl
namespace Go.Dm.Tc
open Go.Proofs
def Qg:aV:={ntmps:=34,results:=[.t 5],mode:=.pure,body :=
 (oQ [oW 3 (.box 58 7 (.t 0)),oW 4 (.box 24 2 (.t 1)),oW 5 (.move (oI 0))]
 (.seq (.block 0 (oQ [oA 7 0 3,oL 8 2 7,oL 9 2 2,oW 10 (.eqa false [1,1] (.t 8) (.t 9)),oM 11 10,gA 12 2 3 11 true,gL 13 2 12 11 true,gL 14 2 4 11 true,gW 15 (.eqa false [1,1] (.t 13) (.t 14)) 11 true,oW 16 (.pick (.t 11) (.t 15) (oB false)),oM 6 16]
 (.cond (.t 6) (oQ [oW 5 (.move (oI 0))]
 .ret) (oQ [oA 18 0 3,oL 19 2 18,oL 20 2 2,oW 21 (.call (oF 88) [.t 19,.t 20]),oM 22 21,gA 23 0 3 22 false,gL 24 2 23 22 false,gL 25 2 2 22 false,gW 26 (.eqa false [1,1] (.t 24) (.t 25)) 22 false,gM 27 26 22 false,gA 28 2 3 27 true,gL 29 2 28 27 true,gL 30 2 4 27 true,gW 31 (.call (oF 88) [.t 29,.t 30]) 27 true,gW 32 (.pick (.t 27) (.t 31) (oB false)) 22 false,oW 33 (.pick (.t 22) (oB true) (.t 32)),oM 17 33]
 (.cond (.t 17) (oQ [oW 5 (.move (oI (-1)))]
 .ret) .skip)))))
 (oQ [oW 5 (.move (oI 1))]
 .ret)))}
theorem UY:aK Tryz.prog Tryz.f159 .pure=some Qg:=by kernel_rfl
def L8:aV:={ntmps:=9,results:=[.t 4],mode:=.pure,body :=
 (oQ [oW 4 (.move (oB false))]
 (oQ [oM 5 0,oM 6 1,oW 7 (.call (oF 165) [.t 5,.t 6]),oW 8 (.arith .geq (.t 7) (oI 0)),oM 4 8]
 .ret))}
theorem UX:aK Tryz.prog Tryz.f160 .pure=some L8:=by kernel_rfl
def L7:aV:={ntmps:=12,results:=[.t 3],mode:=.pure,body :=
 (oQ [oW 2 (.box 58 7 (.t 0)),oW 3 (.move (oB false))]
 (oQ [oA 4 6 2,oD 5 4,oM 6 5,gA 7 4 2 6 true,gD 8 7 6 true,gD 9 1 6 true,gW 10 (.call (oF 15) [.t 8,.t 9]) 6 true,oW 11 (.pick (.t 6) (.t 10) (oB false)),oM 3 11]
 .ret))}
theorem UW:aK Tryz.prog Tryz.f161 .pure=some L7:=by kernel_rfl
def QN:aV:={ntmps:=10,results:=[],mode:=.full,body :=
 (.region [oM 4 0,oM 5 0,oW 6 (.len 1 (.t 5)),oM 7 1,oW 8 (.arith .sub (.t 6) (.t 7)),oW 9 (.call (oF 175) [.t 4,.t 8])])}
theorem UV:aK Tryz.prog Tryz.f163 .full=some QN:=by kernel_rfl
def Ly:aN :=
 (oQ [oW 9 (.arith .lss (.t 8) (.t 7))]
 (.seq (.cond (.t 9) .skip (.exit 0))
 (.seq (.block 1 (oQ [oM 10 8,oM 5 10]
 (oQ [oM 11 1,oM 12 0,oM 13 5,oW 14 (.indexAddr 7 (.t 12) (.t 13)),oL 15 7 14,oW 16 (.call (.t 11) [.t 15])]
 (.cond (.t 16) (oQ [oM 17 5,oM 4 17]
 .ret) .skip))))
 (.region [oW 18 (.arith .add (.t 8) (oI 1)),oM 8 18]))))
def Wf:aN :=
 (oQ [oW 4 (.move (oI (-1)))]
 .ret)
def L6:aV:={ntmps:=19,results:=[.t 4],mode:=.pure,body :=
 (oQ [oW 4 (.move (oI 0))]
 (.seq (oQ [oM 6 0,oW 7 (.len 1 (.t 6)),oW 8 (.move (oI 0))]
 (.block 0 (.loop Ly)))
 Wf))}
theorem UU:aK Tryz.prog Tryz.f165 .pure=some L6:=by kernel_rfl
def Lw:aN :=
 (oQ [oW 7 (.arith .lss (.t 6) (.t 5))]
 (.seq (.cond (.t 7) .skip (.exit 0))
 (.seq (.block 1 (oQ [oM 8 6,oM 3 8]
 (oQ [oM 9 0,oM 10 3,oW 11 (.indexStr (.t 9) (.t 10)),oW 12 (.arith .lss (.t 11) (.c (.int .u8 97))),oM 13 12,gM 14 0 13 false,gM 15 3 13 false,gW 16 (.indexStr (.t 14) (.t 15)) 13 false,gW 17 (.arith .gtr (.t 16) (.c (.int .u8 122))) 13 false,oW 18 (.pick (.t 13) (oB true) (.t 17))]
 (.cond (.t 18) (oQ [oW 2 (.move (oB false))]
 .ret) .skip))))
 (.region [oW 19 (.arith .add (.t 6) (oI 1)),oM 6 19]))))
def Lx:aN :=
 (oQ [oM 20 0,oW 21 (.arith .neq (.t 20) (.c (.str []))),oM 22 21,gM 23 0 22 true,gW 24 (.len 0 (.t 23)) 22 true,gW 25 (.arith .leq (.t 24) (oI 12)) 22 true,oW 26 (.pick (.t 22) (.t 25) (oB false)),oM 2 26]
 .ret)
def L5:aV:={ntmps:=27,results:=[.t 2],mode:=.pure,body :=
 (oQ [oW 2 (.move (oB false))]
 (.seq (oQ [oM 4 0,oW 5 (.len 0 (.t 4)),oW 6 (.move (oI 0))]
 (.block 0 (.loop Lw)))
 Lx))}
theorem UT:aK Tryz.prog Tryz.f171 .pure=some L5:=by kernel_rfl
def L4:aV:={ntmps:=8,results:=[.t 4],mode:=.pure,body :=
 (oQ [oW 4 (.move (oI 0))]
 (oQ [oM 5 0,oM 6 1,oW 7 (.call (oF 186) [.t 5,.t 6]),oM 4 7]
 .ret))}
theorem US:aK Tryz.prog Tryz.f172 .pure=some L4:=by kernel_rfl
def QM:aV:={ntmps:=10,results:=[],mode:=.full,body :=
 (.region [oM 4 0,oM 5 0,oW 6 (.len 1 (.t 5)),oM 7 1,oW 8 (.arith .sub (.t 6) (.t 7)),oW 9 (.call (oF 187) [.t 4,.t 8])])}
theorem UR:aK Tryz.prog Tryz.f174 .full=some QM:=by kernel_rfl
def QL:aV:={ntmps:=14,results:=[],mode:=.full,body :=
 (oQ [oM 4 0,oM 5 1,oW 6 (.sliceSl 7 (.t 4) none (some (.t 5))),oW 7 (.call (oF 188) [.t 6])]
 (oQ [oM 8 0,oM 9 1,oW 10 (.sliceSl 7 (.t 8) (some (.t 9)) none),oW 11 (.call (oF 188) [.t 10])]
 (.region [oM 12 0,oW 13 (.call (oF 188) [.t 12])])))}
theorem UQ:aK Tryz.prog Tryz.f175 .full=some QL:=by kernel_rfl
def QK:aV:={ntmps:=14,results:=[],mode:=.full,body :=
 (oQ [oM 4 0,oM 5 1,oW 6 (.sliceSl 5 (.t 4) none (some (.t 5))),oW 7 (.call (oF 192) [.t 6])]
 (oQ [oM 8 0,oM 9 1,oW 10 (.sliceSl 5 (.t 8) (some (.t 9)) none),oW 11 (.call (oF 192) [.t 10])]
 (.region [oM 12 0,oW 13 (.call (oF 192) [.t 12])])))}
theorem UP:aK Tryz.prog Tryz.f187 .full=some QK:=by kernel_rfl
def NN:aN :=
 (.seq (oQ [oM 7 2,oM 8 3,oW 9 (.arith .lss (.t 7) (.t 8))]
 (.cond (.t 9) .skip (.exit 0)))
 (.seq (.block 1 (.draw [oRM 18 0,oRM 19 3,oR 20 (.indexAddr 7 (.t 18) (.t 19)),oRL 21 7 20,oRM 22 0,oRM 23 2,oR 24 (.indexAddr 7 (.t 22) (.t 23)),oRL 25 7 24,oRM 14 0,oRM 15 2,oR 26 (.indexAddr 7 (.t 14) (.t 15)),oS 7 26 21,oRM 16 0,oRM 17 3,nK 27 (.indexAddr 7 (.t 16) (.t 17)) .read 1,⟨none,.store 7 (.t 27) (.t 25),none,.write,1,false⟩]))
 (.region [oM 10 2,oW 11 (.arith .add (.t 10) (oI 1)),oM 12 3,oW 13 (.arith .sub (.t 12) (oI 1)),oM 2 11,oM 3 13])))
def QJ:aV:={ntmps:=28,results:=[],mode:=.full,body :=
 (oQ [oM 4 0,oW 5 (.len 1 (.t 4)),oW 6 (.arith .sub (.t 5) (oI 1)),oW 2 (.move (oI 0)),oM 3 6]
 (.block 0 (.loop NN)))}
theorem UO:aK Tryz.prog Tryz.f188 .full=some QJ:=by kernel_rfl
def NM:aN :=
 (.seq (oQ [oM 7 2,oM 8 3,oW 9 (.arith .lss (.t 7) (.t 8))]
 (.cond (.t 9) .skip (.exit 0)))
 (.seq (.block 1 (.draw [oRM 18 0,oRM 19 3,oR 20 (.indexAddr 5 (.t 18) (.t 19)),oRL 21 5 20,oRM 22 0,oRM 23 2,oR 24 (.indexAddr 5 (.t 22) (.t 23)),oRL 25 5 24,oRM 14 0,oRM 15 2,oR 26 (.indexAddr 5 (.t 14) (.t 15)),oS 5 26 21,oRM 16 0,oRM 17 3,nK 27 (.indexAddr 5 (.t 16) (.t 17)) .read 1,⟨none,.store 5 (.t 27) (.t 25),none,.write,1,false⟩]))
 (.region [oM 10 2,oW 11 (.arith .add (.t 10) (oI 1)),oM 12 3,oW 13 (.arith .sub (.t 12) (oI 1)),oM 2 11,oM 3 13])))
def QI:aV:={ntmps:=28,results:=[],mode:=.full,body :=
 (oQ [oM 4 0,oW 5 (.len 1 (.t 4)),oW 6 (.arith .sub (.t 5) (oI 1)),oW 2 (.move (oI 0)),oM 3 6]
 (.block 0 (.loop NM)))}
theorem UN:aK Tryz.prog Tryz.f192 .full=some QI:=by kernel_rfl
end Go.Dm.Tc
