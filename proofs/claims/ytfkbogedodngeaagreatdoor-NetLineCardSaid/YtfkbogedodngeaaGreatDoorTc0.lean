/- A part of the proof. -/
import Derived.Test.YtfkbogedodngeaaGreatDoorMm4
import Derived.Test.YtfkbogedodngeaaGreatDoorRows
import Derived.KernelRfl
namespace Go.Dm.Tc
open Go.Proofs
abbrev oQ(l:List aH)(c:aI):aI:=.seq (.region l) c
abbrev gW(d:Nat)(op:DOp)(g:Nat)(b:Bool):aH:=⟨some d,op,some (g,b),.write,0,false⟩
abbrev gM(d x g:Nat)(b:Bool):aH:=⟨some d,.move (.t x),some (g,b),.write,0,false⟩
abbrev gA(d o x g:Nat)(b:Bool):aH:=⟨some d,.fieldAddr o (.t x),some (g,b),.write,0,false⟩
abbrev gD(d x g:Nat)(b:Bool):aH:=⟨some d,.load none (.t x),some (g,b),.write,0,false⟩
abbrev gL(d n x g:Nat)(b:Bool):aH:=⟨some d,.load (some n) (.t x),some (g,b),.write,0,false⟩
abbrev rW(d:Nat)(op:DOp)(g:Nat)(b:Bool):aH:=⟨some d,op,some (g,b),.read,0,false⟩
abbrev rM(d x g:Nat)(b:Bool):aH:=⟨some d,.move (.t x),some (g,b),.read,0,false⟩
abbrev rA(d o x g:Nat)(b:Bool):aH:=⟨some d,.fieldAddr o (.t x),some (g,b),.read,0,false⟩
abbrev rD(d x g:Nat)(b:Bool):aH:=⟨some d,.load none (.t x),some (g,b),.read,0,false⟩
abbrev rL(d n x g:Nat)(b:Bool):aH:=⟨some d,.load (some n) (.t x),some (g,b),.read,0,false⟩
abbrev nK(d:Nat)(op:DOp)(k:sR)(s:Nat):aH:=⟨some d,op,none,k,s,false⟩
def MW:aI :=
 (.seq (oQ [oM 31 9,oM 32 7,oW 33 (.arith .lss (.t 31) (.t 32))]
 (.cond (.t 33) .skip (.exit 0)))
 (.seq (.block 1 (.region [oA 36 1 8,oD 37 36,oM 38 9,oW 39 (.arith .sub (.t 38) (oI 1)),oM 40 9,oW 41 (.build [.int .i64 0,.int .i64 0] [(0,1,.t 39),(1,1,.t 40)]),oW 42 (.buildSlice 86 2 (.agg [.int .i64 0,.int .i64 0]) 1 [(0,.t 41)]),oW 43 (.append 86 2 16 (.t 37) (.t 42)),oA 44 1 8,oS 1 44 43]))
 (.region [oM 34 9,oW 35 (.arith .add (.t 34) (oI 1)),oM 9 35])))
def V9:aI :=
 (oQ [oL 46 2 8,oW 47 (.call (oF 24) [.t 46]),oM 45 47,oX 48 45 0,oX 49 45 1,oW 10 (.alloc 78 1 .nilp),oS 1 10 48,oM 11 49]
 (.seq (oQ [oD 50 10,oW 51 (.eqn 0 false (.t 50) (.c .nilp)),oM 52 51,gM 53 11 52 false,gW 54 (.eqn 4 true (.t 53) (.c .nili)) 52 false,oW 55 (.pick (.t 52) (oB true) (.t 54))]
 (.cond (.t 55) (oQ [oW 6 (.move (oB false))]
 .ret) .skip))
 (oQ [oM 56 1,oM 57 7,oW 58 (.arith .sub (.t 57) (oI 1)),oW 59 (.call (oF 10) [.t 56,oI 0,.t 58]),oM 60 2,oM 61 7,oW 62 (.arith .sub (.t 61) (oI 1)),oW 63 (.call (oF 10) [.t 60,oI 0,.t 62]),oM 12 59,oM 13 63]
 (oQ [oW 64 (.build [.int .i64 0,.int .i64 0] [(0,1,oI 1)]),oW 65 (.build [.int .i64 0,.int .i64 0] [(0,1,oI 2)]),oW 66 (.build [.int .i64 0,.int .i64 0] [(0,1,oI 1),(1,1,oI 4)]),oW 14 (.alloc 45 2 (.agg [.int .i64 0,.int .i64 0])),oW 15 (.alloc 45 2 (.agg [.int .i64 0,.int .i64 0])),oW 16 (.alloc 45 2 (.agg [.int .i64 0,.int .i64 0])),oS 2 14 64,oS 2 15 65,oS 2 16 66]
 (oQ [oW 67 (.makeFunc 35 [.t 10]),oM 17 67]
 (.seq (oQ [oD 68 10,oM 69 12,oL 70 2 14,oW 71 (.call (oF 25) [.t 68,.t 69,.t 70,.c .nsl]),oW 72 (.eqn 4 true (.t 71) (.c .nili))]
 (.cond (.t 72) (oQ [oW 6 (.move (oB false))]
 .ret) .skip))
 (oQ [oM 74 17,oW 75 (.call (.t 74) []),oM 73 75,oX 76 73 0,oX 77 73 1,oM 18 76,oM 19 77]
 (.seq (oQ [oD 78 10,oM 79 13,oL 80 2 15,oW 81 (.call (oF 36) [.t 78,.t 79,.t 80,.c .nsl]),oW 82 (.eqn 4 true (.t 81) (.c .nili))]
 (.cond (.t 82) (oQ [oW 6 (.move (oB false))]
 .ret) .skip))
 (oQ [oM 84 17,oW 85 (.call (.t 84) []),oM 83 85,oX 86 83 0,oX 87 83 1,oM 20 86,oM 21 87]
 (oQ [oD 89 10,oM 90 12,oL 91 2 14,oL 92 2 16,oW 93 (.call (oF 37) [.t 89,.t 90,.t 91,.t 92,.c .nsl]),oM 88 93,oX 94 88 0,oX 95 88 1,oM 22 94,oM 23 95]
 (oQ [oM 97 17,oW 98 (.call (.t 97) []),oM 96 98,oX 99 96 0,oX 100 96 1,oM 24 99,oM 25 100]
 (oQ [oM 101 13,oM 102 12,oW 103 (.arith .sub (.t 101) (.t 102)),oM 26 103]
 (.seq (oQ [oM 104 26,oW 105 (.arith .lss (.t 104) (oI 0))]
 (.cond (.t 105) (.region [oM 106 26,oW 107 (.un .neg (.t 106)),oM 26 107]) .skip))
 (oQ [oM 108 23,oW 109 (.eqn 4 false (.t 108) (.c .nili)),oM 110 109,gM 111 18 110 true,gM 112 7 110 true,gW 113 (.arith .sub (.t 112) (oI 1)) 110 true,gW 114 (.arith .eql (.t 111) (.t 113)) 110 true,oW 115 (.pick (.t 110) (.t 114) (oB false)),oM 116 115,gM 117 20 116 true,gM 118 26 116 true,gW 119 (.arith .eql (.t 117) (.t 118)) 116 true,oW 120 (.pick (.t 116) (.t 119) (oB false)),oM 121 120,gM 122 24 121 true,gM 123 26 121 true,gW 124 (.arith .eql (.t 122) (.t 123)) 121 true,oW 125 (.pick (.t 121) (.t 124) (oB false)),oM 126 125,gM 127 25 126 true,gM 128 22 126 true,gW 129 (.len 1 (.t 128)) 126 true,gW 130 (.arith .add (.t 127) (.t 129)) 126 true,gW 131 (.arith .eql (.t 130) (oI 1)) 126 true,oW 132 (.pick (.t 126) (.t 131) (oB false)),oM 133 132,gD 134 10 133 true,gW 135 (.call (oF 33) [.t 134]) 133 true,gW 136 (.len 1 (.t 135)) 133 true,gM 137 26 133 true,gW 138 (.arith .eql (.t 136) (.t 137)) 133 true,oW 139 (.pick (.t 133) (.t 138) (oB false)),oM 140 139,gM 141 22 140 true,gW 142 (.len 1 (.t 141)) 140 true,gW 143 (.arith .eql (.t 142) (oI 1)) 140 true,gM 144 26 140 true,gW 145 (.arith .eql (.t 144) (oI 0)) 140 true,gW 146 (.eqb false (.t 143) (.t 145)) 140 true,oW 147 (.pick (.t 140) (.t 146) (oB false)),oM 148 147,gW 149 (.call (oF 34) []) 148 true,oW 150 (.pick (.t 148) (.t 149) (oB false)),oM 6 150]
 .ret))))))))))))))
def t6:aL:={ntmps:=151,results:=[.t 6],mode:=.pure,body :=
 (oQ [oW 6 (.move (oB false))]
 (oQ [oM 27 0,oW 28 (.call (oF 10) [.t 27,oI 2,oI 9]),oM 7 28]
 (oQ [oM 29 7,oW 30 (.build [.int .i64 0,.nsl] [(0,1,.t 29)]),oW 8 (.alloc 76 2 (.agg [.int .i64 0,.nsl])),oS 2 8 30]
 (.seq (oQ [oW 9 (.move (oI 1))]
 (.block 0 (.loop MW)))
 V9))))}
theorem c6:aD Tryz.prog Tryz.f6 .pure=some t6:=by kernel_rfl
def t10:aL:={ntmps:=24,results:=[.t 6],mode:=.pure,body :=
 (oQ [oW 6 (.move (oI 0))]
 (oQ [oM 7 0,oM 8 2,oM 9 1,oW 10 (.arith .sub (.t 8) (.t 9)),oW 11 (.arith .add (.t 10) (oI 1)),oW 12 (.arith .rem (.t 7) (.t 11)),oM 0 12]
 (.seq (oQ [oM 13 0,oW 14 (.arith .lss (.t 13) (oI 0))]
 (.cond (.t 14) (.region [oM 15 0,oM 16 2,oW 17 (.arith .add (.t 15) (.t 16)),oM 18 1,oW 19 (.arith .sub (.t 17) (.t 18)),oW 20 (.arith .add (.t 19) (oI 1)),oM 0 20]) .skip))
 (oQ [oM 21 1,oM 22 0,oW 23 (.arith .add (.t 21) (.t 22)),oM 6 23]
 .ret))))}
theorem c10:aD Tryz.prog Tryz.f10 .pure=some t10:=by kernel_rfl
def t15:aL:={ntmps:=8,results:=[.t 2],mode:=.pure,body :=
 (oQ [oW 2 (.move (oI 0))]
 (oQ [oW 3 (.alloc 57 1 (.int .i64 0))]
 (.seq (oQ [oM 4 0,oW 5 (.makeIface 137 (.t 3)),oW 6 (.call (oF 62) [.t 4,.t 5])]
 (.cond (.t 6) (oQ [oD 7 3,oM 2 7]
 .ret) .skip))
 (oQ [oW 2 (.move (oI 0))]
 .ret))))}
theorem c15:aD Tryz.prog Tryz.f15 .pure=some t15:=by kernel_rfl
def i9:aI :=
 (.seq (oQ [oM 11 5,oM 12 0,oW 13 (.len 1 (.t 12)),oW 14 (.arith .lss (.t 11) (.t 13))]
 (.cond (.t 14) .skip (.exit 0)))
 (.seq (.block 1 (.seq (.draw [oRM 17 0,oRM 18 5,oR 19 (.indexAddr 1 (.t 17) (.t 18)),oRD 20 19,oRM 21 1,oRM 22 5,oR 23 (.indexAddr 1 (.t 21) (.t 22)),oRD 24 23,oR 25 (.arith .neq (.t 20) (.t 24))])
 (.cond (.t 25) (oQ [oW 4 (.move (oB false))]
 .ret) .skip)))
 (.region [oM 15 5,oW 16 (.arith .add (.t 15) (oI 1)),oM 5 16])))
def j5:aI :=
 (oQ [oW 4 (.move (oB true))]
 .ret)
def t16:aL:={ntmps:=26,results:=[.t 4],mode:=.pure,body :=
 (oQ [oW 4 (.move (oB false))]
 (.seq (oQ [oM 6 0,oW 7 (.len 1 (.t 6)),oM 8 1,oW 9 (.len 1 (.t 8)),oW 10 (.arith .neq (.t 7) (.t 9))]
 (.cond (.t 10) (oQ [oW 4 (.move (oB false))]
 .ret) .skip))
 (.seq (oQ [oW 5 (.move (oI 0))]
 (.block 0 (.loop i9)))
 j5)))}
theorem c16:aD Tryz.prog Tryz.f16 .pure=some t16:=by kernel_rfl
def d9:aI :=
 (oQ [oW 10 (.arith .lss (.t 9) (.t 8))]
 (.seq (.cond (.t 10) .skip (.exit 0))
 (.seq (.block 1 (oQ [oW 11 (.indexAddr 1 (.t 7) (.t 9)),oD 12 11,oM 5 12]
 (.region [oM 13 3,oM 14 5,oW 15 (.nilCheck (.t 14)),oA 16 0 15,oD 17 16,oW 18 (.buildSlice 9 1 (.str []) 1 [(0,.t 17)]),oW 19 (.append 9 1 16 (.t 13) (.t 18)),oM 3 19])))
 (.region [oW 20 (.arith .add (.t 9) (oI 1)),oM 9 20]))))
def i5:aI :=
 (oQ [oM 21 3,oM 2 21]
 .ret)
def t17:aL:={ntmps:=22,results:=[.t 2],mode:=.pure,body :=
 (oQ [oW 2 (.move (.c .nsl))]
 (oQ [oW 3 (.move (.c .nsl))]
 (.seq (oQ [oM 6 0,oW 7 (.call (oF 63) [.t 6]),oW 8 (.len 1 (.t 7)),oW 9 (.move (oI 0))]
 (.block 0 (.loop d9)))
 i5)))}
theorem c17:aD Tryz.prog Tryz.f17 .pure=some t17:=by kernel_rfl
def O6:aI :=
 (oQ [oW 22 (.arith .lss (.t 21) (.t 20))]
 (.seq (.cond (.t 22) .skip (.exit 0))
 (.seq (.block 1 (oQ [oM 23 21,oM 6 23]
 (.draw [oRM 25 5,oR 26 (.nilCheck (.t 25)),oRA 27 2 26,oRD 28 27,oRL 30 2 1,oRM 31 6,nK 32 (.call (oF 76) [.t 30,.t 31]) .create 0,oRM 29 6,nK 33 (.call (oF 64) [.t 29,.t 32]) .create 0,nK 34 (.buildSlice 37 6 (.agg [.int .i64 0,.nsl,.nsl,.nsl,.nsl,.nsl]) 1 [(0,.t 33)]) .create 0,nK 35 (.append 37 6 128 (.t 28) (.t 34)) .write 3,oRM 24 5,nK 36 (.nilCheck (.t 24)) .read 4,nK 37 (.fieldAddr 2 (.t 36)) .read 4,⟨none,.store 1 (.t 37) (.t 35),none,.write,4,false⟩])))
 (.region [oW 38 (.arith .add (.t 21) (oI 1)),oM 21 38]))))
def O7:aI :=
 (oQ [oM 39 5,oM 2 39,oW 3 (.move (.c .nili))]
 .ret)
def t24:aL:={ntmps:=40,results:=[.t 2,.t 3],mode:=.full,body :=
 (oQ [oW 1 (.box 76 2 (.t 0)),oW 2 (.move (.c .nilp)),oW 3 (.move (.c .nili))]
 (.seq (oQ [oL 7 2 1,oW 8 (.call (oF 73) [.t 7]),oM 4 8]
 (oQ [oM 9 4,oW 10 (.eqn 4 true (.t 9) (.c .nili))]
 (.cond (.t 10) (oQ [oM 11 4,oW 12 (.call (oF 49) [(.c (.str [110,101,116])),(oI (-1)),.t 11]),oW 2 (.move (.c .nilp)),oM 3 12]
 .ret) .skip)))
 (.seq (.draw [oRL 13 2 1,nK 14 (.call (oF 74) [.t 13]) .create 0,oRL 15 2 1,nK 16 (.call (oF 75) [.t 15]) .write 1,nK 17 (.build [.int .i64 0,.nsl,.nsl,.nilp,.nsl] [(0,2,.t 14),(3,1,.t 16)]) .read 2,nK 18 (.box 162 5 (.t 17)) .write 2,nK 5 (.move (.t 18)) .read 3])
 (.seq (oQ [oA 19 0 1,oD 20 19,oW 21 (.move (oI 0))]
 (.block 0 (.loop O6)))
 O7))))}
theorem c24:aD Tryz.prog Tryz.f24 .full=some t24:=by kernel_rfl
def t25:aL:={ntmps:=13,results:=[.t 8],mode:=.full,body :=
 (oQ [oW 6 (.box 45 2 (.t 2)),oW 7 (.box 46 1 (.t 3)),oW 8 (.move (.c .nili))]
 (oQ [oM 9 0,oM 10 1,oW 11 (.makeFunc 78 [.t 6,.t 7]),oW 12 (.call (oF 77) [.t 9,.t 10,.t 11]),oM 8 12]
 .ret))}
theorem c25:aD Tryz.prog Tryz.f25 .full=some t25:=by kernel_rfl
def t27:aL:={ntmps:=8,results:=[.t 2],mode:=.full,body :=
 (oQ [oW 2 (.move (.c .nsl))]
 (oQ [oM 3 0,oW 4 (.nilCheck (.t 3)),oA 5 3 4,oD 6 5,oW 7 (.call (oF 82) [.t 6]),oM 2 7]
 .ret))}
theorem c27:aD Tryz.prog Tryz.f27 .full=some t27:=by kernel_rfl
def t29:aL:={ntmps:=54,results:=[.t 6,.t 7],mode:=.full,body :=
 (oQ [oW 6 (.move (.c .nsl)),oW 7 (.move (.c .nili))]
 (oQ [oM 14 0,oW 15 (.nilCheck (.t 14)),oA 16 3 15,oD 17 16,oM 18 1,oM 19 2,oW 20 (.call (oF 84) [.t 17,.t 18,.t 19]),oM 13 20,oX 21 13 0,oX 22 13 1,oW 8 (.alloc 49 7 (.agg [.int .i64 0,.int .i64 0,.int .i64 0,.int .i64 0,.int .i64 0,.nsl,.nsl])),oS 7 8 21,oM 9 22]
 (.seq (oQ [oM 23 9,oW 24 (.eqn 4 true (.t 23) (.c .nili))]
 (.cond (.t 24) (oQ [oM 25 1,oM 26 9,oW 27 (.call (oF 49) [(.c (.str [110,101,116])),.t 25,.t 26]),oW 6 (.move (.c .nsl)),oM 7 27]
 .ret) .skip))
 (.seq (.draw [oRM 29 0,oR 30 (.nilCheck (.t 29)),oRA 31 2 30,oRD 32 31,oRM 33 2,oR 34 (.indexAddr 6 (.t 32) (.t 33)),oRL 35 6 34,oRL 37 7 8,oRM 36 1,oW 38 (.call (oF 52) [.t 35,.t 36,.t 37]),nK 28 (.move (.t 38)) .read 1,nK 39 (.extract (.t 28) 0) .read 1,nK 10 (.alloc 37 6 (.agg [.int .i64 0,.nsl,.nsl,.nsl,.nsl,.nsl])) .create 0,⟨none,.store 6 (.t 10) (.t 39),none,.write,2,false⟩,nK 40 (.extract (.t 28) 1) .read 1,nK 41 (.extract (.t 28) 2) .read 1,nK 11 (.move (.t 40)) .read 3,nK 12 (.move (.t 41)) .read 3])
 (.seq (.draw [oRM 42 0,oR 43 (.nilCheck (.t 42)),oRA 44 2 43,oRD 45 44,oRL 47 6 10,oRM 46 2,oR 48 (.indexAddr 6 (.t 45) (.t 46)),oS 6 48 47])
 (oQ [oM 49 0,oM 50 2,oM 51 11,oW 52 (.call (oF 85) [.t 49,.t 50,.t 51])]
 (oQ [oM 53 12,oM 6 53,oW 7 (.move (.c .nili))]
 .ret)))))))}
theorem c29:aD Tryz.prog Tryz.f29 .full=some t29:=by kernel_rfl
def t30:aL:={ntmps:=22,results:=[(.cell 4 (some 4)),.t 5],mode:=.pure,body :=
 (oQ [oW 2 (.box 37 6 (.t 0)),oW 3 (.box 45 2 (.t 1)),oW 4 (.alloc 68 4 (.agg [.int .i64 0,.int .i64 0,.nsl,.int .i64 0])),oW 5 (.move (oB false))]
 (oQ [oL 9 6 2,oL 10 2 3,oW 11 (.call (oF 86) [.t 9,.t 10]),oM 8 11,oX 12 8 0,oX 13 8 1,oM 6 12,oM 7 13]
 (.seq (oQ [oM 14 7,oW 15 (.un .not (.t 14))]
 (.cond (.t 15) (oQ [oW 16 (.build [.int .i64 0,.int .i64 0,.nsl,.int .i64 0] []),oS 4 4 16,oW 5 (.move (oB false))]
 .ret) .skip))
 (oQ [oA 17 2 2,oD 18 17,oM 19 6,oW 20 (.indexAddr 4 (.t 18) (.t 19)),oL 21 4 20,oS 4 4 21,oW 5 (.move (oB true))]
 .ret))))}
theorem c30:aD Tryz.prog Tryz.f30 .pure=some t30:=by kernel_rfl
def t31:aL:={ntmps:=39,results:=[(.cell 4 (some 6))],mode:=.full,body :=
 (oQ [oW 4 (.alloc 37 6 (.agg [.int .i64 0,.nsl,.nsl,.nsl,.nsl,.nsl]))]
 (.seq (oQ [oM 6 0,oM 7 1,oW 8 (.call (oF 87) [.t 6,.t 7]),oW 9 (.un .not (.t 8))]
 (.cond (.t 9) (oQ [oW 10 (.build [.int .i64 0,.nsl,.nsl,.nsl,.nsl,.nsl] []),oS 6 4 10]
 .ret) .skip))
 (oQ [oM 11 0,oW 12 (.nilCheck (.t 11)),oA 13 2 12,oD 14 13,oM 15 1,oW 16 (.indexAddr 6 (.t 14) (.t 15)),oL 17 6 16,oW 5 (.alloc 37 6 (.agg [.int .i64 0,.nsl,.nsl,.nsl,.nsl,.nsl])),oS 6 5 17]
 (.seq (.draw [oRA 18 1 5,oRD 19 18,nK 20 (.call (oF 88) [.t 19]) .create 0,oRA 21 2 5,oRD 22 21,nK 23 (.call (oF 89) [.t 22]) .create 0,oRA 24 3 5,oRD 25 24,nK 26 (.call (oF 90) [.t 25]) .create 0,oRA 27 4 5,oRD 28 27,nK 29 (.call (oF 91) [.t 28]) .create 0,oRA 30 5 5,oRD 31 30,nK 32 (.call (oF 92) [.t 31]) .write 4,nK 33 (.fieldAddr 1 (.t 5)) .read 1,⟨none,.store 1 (.t 33) (.t 20),none,.write,5,false⟩,nK 34 (.fieldAddr 2 (.t 5)) .read 6,⟨none,.store 1 (.t 34) (.t 23),none,.write,6,false⟩,nK 35 (.fieldAddr 3 (.t 5)) .read 7,⟨none,.store 1 (.t 35) (.t 26),none,.write,7,false⟩,nK 36 (.fieldAddr 4 (.t 5)) .read 8,⟨none,.store 1 (.t 36) (.t 29),none,.write,8,false⟩,nK 37 (.fieldAddr 5 (.t 5)) .read 9,⟨none,.store 1 (.t 37) (.t 32),none,.write,9,false⟩])
 (oQ [oL 38 6 5,oS 6 4 38]
 .ret)))))}
theorem c31:aD Tryz.prog Tryz.f31 .full=some t31:=by kernel_rfl
def t33:aL:={ntmps:=8,results:=[.t 2],mode:=.full,body :=
 (oQ [oW 2 (.move (.c .nsl))]
 (oQ [oM 3 0,oW 4 (.nilCheck (.t 3)),oA 5 4 4,oD 6 5,oW 7 (.call (oF 93) [.t 6]),oM 2 7]
 .ret))}
theorem c33:aD Tryz.prog Tryz.f33 .full=some t33:=by kernel_rfl
def t34:aL:={ntmps:=96,results:=[.t 0],mode:=.pure,body :=
 (oQ [oW 0 (.move (oB false))]
 (oQ [oW 15 (.build [.int .i64 0,.int .i64 0] [(0,1,oI 0),(1,1,oI 1)]),oW 16 (.buildSlice 86 2 (.agg [.int .i64 0,.int .i64 0]) 1 [(0,.t 15)]),oW 17 (.build [.int .i64 0,.nsl] [(0,1,oI 2),(1,1,.t 16)]),oW 18 (.call (oF 24) [.t 17]),oM 14 18,oX 19 14 0,oX 20 14 1,oM 1 19,oM 2 20]
 (.seq (oQ [oM 21 1,oW 22 (.eqn 0 false (.t 21) (.c .nilp)),oM 23 22,gM 24 2 23 false,gW 25 (.eqn 4 true (.t 24) (.c .nili)) 23 false,oW 26 (.pick (.t 23) (oB true) (.t 25))]
 (.cond (.t 26) (oQ [oW 0 (.move (oB false))]
 .ret) .skip))
 (oQ [oW 27 (.build [.int .i64 0,.int .i64 0] [(0,1,oI 1)]),oW 3 (.alloc 45 2 (.agg [.int .i64 0,.int .i64 0])),oS 2 3 27]
 (oQ [oM 28 1,oL 29 2 3,oW 30 (.call (oF 25) [.t 28,oI 0,.t 29,.c .nsl]),oM 4 30]
 (oQ [oM 31 1,oW 32 (.call (oF 27) [.t 31]),oW 33 (.len 1 (.t 32)),oM 5 33]
 (oQ [oM 35 1,oW 36 (.call (oF 29) [.t 35,oI 0,oI 1]),oM 34 36,oX 37 34 0,oX 38 34 1,oM 6 37,oM 7 38]
 (oQ [oM 40 1,oW 41 (.call (oF 29) [.t 40,oI 0,oI 1]),oM 39 41,oX 42 39 0,oX 43 39 1,oM 8 42,oM 9 43]
 (.seq (.draw [oRM 45 1,nK 46 (.call (oF 31) [.t 45,oI 1]) .create 0,oRL 47 2 3,nK 48 (.call (oF 30) [.t 46,.t 47]) .write 1,nK 44 (.move (.t 48)) .read 2,nK 49 (.extract (.t 44) 0) .read 2,nK 10 (.alloc 68 4 (.agg [.int .i64 0,.int .i64 0,.nsl,.int .i64 0])) .create 0,⟨none,.store 4 (.t 10) (.t 49),none,.write,3,false⟩,nK 50 (.extract (.t 44) 1) .read 2,nK 11 (.move (.t 50)) .read 4])
 (oQ [oW 52 (.build [.int .i64 0,.nsl] []),oW 53 (.call (oF 24) [.t 52]),oM 51 53,oX 54 51 0,oX 55 51 1,oM 12 54,oM 13 55]
 (oQ [oM 56 4,oW 57 (.eqn 4 false (.t 56) (.c .nili)),oM 58 57,gM 59 5 58 true,gW 60 (.arith .eql (.t 59) (oI 1)) 58 true,oW 61 (.pick (.t 58) (.t 60) (oB false)),oM 62 61,gM 63 7 62 true,gW 64 (.eqn 4 false (.t 63) (.c .nili)) 62 true,oW 65 (.pick (.t 62) (.t 64) (oB false)),oM 66 65,gM 67 11 66 true,oW 68 (.pick (.t 66) (.t 67) (oB false)),oM 69 68,gA 70 3 10 69 true,gD 71 70 69 true,gW 72 (.arith .eql (.t 71) (oI 0)) 69 true,oW 73 (.pick (.t 69) (.t 72) (oB false)),oM 74 73,gM 75 9 74 true,gW 76 (.call (oF 15) [.t 75]) 74 true,gW 77 (.arith .eql (.t 76) (oI 8)) 74 true,oW 78 (.pick (.t 74) (.t 77) (oB false)),oM 79 78,gM 80 9 79 true,gW 81 (.call (oF 17) [.t 80]) 79 true,gW 82 (.buildSlice 9 1 (.str []) 2 [(0,(.c (.str [110,101,116]))),(1,(.c (.str [113,117,101,117,101])))]) 79 true,gW 83 (.call (oF 16) [.t 81,.t 82]) 79 true,oW 84 (.pick (.t 79) (.t 83) (oB false)),oM 85 84,gM 86 13 85 true,gW 87 (.call (oF 15) [.t 86]) 85 true,gW 88 (.arith .eql (.t 87) (oI 2)) 85 true,oW 89 (.pick (.t 85) (.t 88) (oB false)),oM 90 89,gM 91 13 90 true,gW 92 (.call (oF 17) [.t 91]) 90 true,gW 93 (.buildSlice 9 1 (.str []) 2 [(0,(.c (.str [110,101,116]))),(1,(.c (.str [103,114,97,112,104])))]) 90 true,gW 94 (.call (oF 16) [.t 92,.t 93]) 90 true,oW 95 (.pick (.t 90) (.t 94) (oB false)),oM 0 95]
 .ret)))))))))))}
theorem c34:aD Tryz.prog Tryz.f34 .pure=some t34:=by kernel_rfl
def FE:aI :=
 (oQ [oW 9 (.arith .lss (.t 8) (oI 100))]
 (.seq (.cond (.t 9) .skip (.exit 0))
 (.seq (.block 1 (oQ [oD 10 0,oW 11 (.call (oF 27) [.t 10]),oM 5 11]
 (.seq (oQ [oM 12 5,oW 13 (.len 1 (.t 12)),oW 14 (.arith .eql (.t 13) (oI 0))]
 (.cond (.t 14) (.exit 0) .skip))
 (.seq (.draw [oRD 16 0,oRM 17 5,oR 18 (.indexAddr 2 (.t 17) (oI 0)),oR 19 (.indexArr 2 1 (.t 18) (oI 0)),oRD 20 19,oRM 21 5,oR 22 (.indexAddr 2 (.t 21) (oI 0)),oR 23 (.indexArr 2 1 (.t 22) (oI 1)),oRD 24 23,oW 25 (.call (oF 29) [.t 16,.t 20,.t 24]),nK 15 (.move (.t 25)) .read 1,nK 26 (.extract (.t 15) 0) .read 1,nK 27 (.extract (.t 15) 1) .read 1,nK 6 (.move (.t 26)) .read 1,nK 7 (.move (.t 27)) .read 1])
 (.seq (oQ [oM 28 7,oW 29 (.eqn 4 true (.t 28) (.c .nili))]
 (.cond (.t 29) (oQ [oW 1 (.move (oI (-1))),oW 2 (.move (oI (-1)))]
 .ret) .skip))
 (.region [oM 30 3,oW 31 (.arith .add (.t 30) (oI 1)),oM 32 4,oM 33 6,oW 34 (.len 1 (.t 33)),oW 35 (.arith .add (.t 32) (.t 34)),oM 3 31,oM 4 35]))))))
 (.region [oW 36 (.arith .add (.t 8) (oI 1)),oM 8 36]))))
def O5:aI :=
 (oQ [oM 37 3,oM 38 4,oM 1 37,oM 2 38]
 .ret)
def t35:aL:={ntmps:=39,results:=[.t 1,.t 2],mode:=.full,body :=
 (oQ [oW 1 (.move (oI 0)),oW 2 (.move (oI 0))]
 (oQ [oW 3 (.move (oI 0)),oW 4 (.move (oI 0))]
 (.seq (oQ [oW 8 (.move (oI 0))]
 (.block 0 (.loop FE)))
 O5)))}
theorem c35:aD Tryz.prog Tryz.f35 .full=some t35:=by kernel_rfl
def t36:aL:={ntmps:=13,results:=[.t 8],mode:=.full,body :=
 (oQ [oW 6 (.box 45 2 (.t 2)),oW 7 (.box 46 1 (.t 3)),oW 8 (.move (.c .nili))]
 (oQ [oM 9 0,oM 10 1,oW 11 (.makeFunc 94 [.t 6,.t 7]),oW 12 (.call (oF 77) [.t 9,.t 10,.t 11]),oM 8 12]
 .ret))}
theorem c36:aD Tryz.prog Tryz.f36 .full=some t36:=by kernel_rfl
def t37:aL:={ntmps:=20,results:=[.t 10,.t 11],mode:=.full,body :=
 (oQ [oW 7 (.box 45 2 (.t 2)),oW 8 (.box 45 2 (.t 3)),oW 9 (.box 47 1 (.t 4)),oW 10 (.move (.c .nsl)),oW 11 (.move (.c .nili))]
 (oQ [oW 12 (.alloc 53 1 .nsl)]
 (oQ [oM 14 0,oM 15 1,oW 16 (.makeFunc 96 [.t 7,.t 8,.t 9,.t 12]),oW 17 (.call (oF 77) [.t 14,.t 15,.t 16]),oM 13 17]
 (oQ [oD 18 12,oM 19 13,oM 10 18,oM 11 19]
 .ret))))}
theorem c37:aD Tryz.prog Tryz.f37 .full=some t37:=by kernel_rfl
def O4:aI :=
 (oQ [oW 10 (.arith .lss (.t 9) (.t 8))]
 (.seq (.cond (.t 10) .skip (.exit 0))
 (.seq (.block 1 (oQ [oW 11 (.indexAddr 2 (.t 7) (.t 9)),oL 12 2 11,oW 5 (.alloc 86 2 (.agg [.int .i64 0,.int .i64 0])),oS 2 5 12]
 (oQ [oL 13 2 1,oL 14 2 5,oW 15 (.call (oF 101) [.t 13,.t 14])]
 (.cond (.t 15) (.region [oM 16 3,oL 17 2 5,oW 18 (.indexArr 2 1 (.t 5) (oI 1)),oD 19 18,oW 20 (.indexArr 2 1 (.t 5) (oI 0)),oD 21 20,oW 22 (.build [.int .i64 0,.int .i64 0] [(0,1,.t 19),(1,1,.t 21)]),oW 23 (.buildSlice 86 2 (.agg [.int .i64 0,.int .i64 0]) 2 [(0,.t 17),(1,.t 22)]),oW 24 (.append 86 2 16 (.t 16) (.t 23)),oM 3 24]) .skip))))
 (.region [oW 25 (.arith .add (.t 9) (oI 1)),oM 9 25]))))
def Rx:aI :=
 (oQ [oM 26 3,oW 27 (.call (oF 102) [.t 26,oF 103])]
 (oQ [oM 28 3,oW 29 (.call (oF 106) [.t 28]),oM 2 29]
 .ret))
def t40:aL:={ntmps:=30,results:=[.t 2],mode:=.pure,body :=
 (oQ [oW 1 (.box 76 2 (.t 0)),oW 2 (.move (.c .nsl))]
 (oQ [oW 3 (.move (.c .nsl))]
 (.seq (oQ [oA 6 1 1,oD 7 6,oW 8 (.len 1 (.t 7)),oW 9 (.move (oI 0))]
 (.block 0 (.loop O4)))
 Rx)))}
theorem c40:aD Tryz.prog Tryz.f40 .pure=some t40:=by kernel_rfl
def t49:aL:={ntmps:=15,results:=[.t 6],mode:=.pure,body :=
 (oQ [oW 6 (.move (.c .nili))]
 (.seq (oQ [oM 7 2,oW 8 (.eqn 4 false (.t 7) (.c .nili))]
 (.cond (.t 8) (oQ [oW 6 (.move (.c .nili))]
 .ret) .skip))
 (oQ [oM 9 0,oM 10 1,oM 11 2,oW 12 (.build [.str [],.int .i64 0,.nili] [(0,1,.t 9),(1,1,.t 10),(2,1,.t 11)]),oW 13 (.box 142 3 (.t 12)),oW 14 (.makeIface 140 (.t 13)),oM 6 14]
 .ret)))}
theorem c49:aD Tryz.prog Tryz.f49 .pure=some t49:=by kernel_rfl
def t52:aL:={ntmps:=68,results:=[(.cell 6 (some 6)),.t 7,.t 8],mode:=.frz,body :=
 (oQ [oW 3 (.box 37 6 (.t 0)),oW 5 (.box 49 7 (.t 2)),oW 6 (.alloc 37 6 (.agg [.int .i64 0,.nsl,.nsl,.nsl,.nsl,.nsl])),oW 7 (.move (.c .nsl)),oW 8 (.move (.c .nsl))]
 (oQ [oW 9 (.move (.c .nsl))]
 (.seq (oQ [oA 12 0 5,oD 13 12]
 (.block 0 (oQ [oW 15 (.arith .eql (.t 13) (oI 1)),oM 14 15]
 (.cond (.t 14) (.region [oL 17 6 3,oM 18 1,oA 19 1 5,oL 20 2 19,oA 21 5 5,oD 22 21,oW 23 (.call (oF 79) [.t 17,.t 18,.t 20,.t 22]),oM 16 23,oX 24 16 0,oX 25 16 1,oS 6 3 24,oM 9 25]) (oQ [oW 27 (.arith .eql (.t 13) (oI 2)),oM 26 27]
 (.cond (.t 26) (.region [oL 29 6 3,oM 30 1,oA 31 1 5,oL 32 2 31,oW 33 (.call (oF 134) [.t 29,.t 30,.t 32]),oM 28 33,oX 34 28 0,oX 35 28 1,oS 6 3 34,oM 9 35]) (oQ [oW 37 (.arith .eql (.t 13) (oI 3)),oM 36 37]
 (.cond (.t 36) (.region [oL 39 6 3,oM 40 1,oL 41 7 5,oW 42 (.call (oF 135) [.t 39,.t 40,.t 41]),oM 38 42,oX 43 38 0,oX 44 38 1,oS 6 3 43,oM 9 44]) (oQ [oW 46 (.arith .eql (.t 13) (oI 4)),oM 45 46]
 (.cond (.t 45) (.region [oL 48 6 3,oM 49 1,oL 50 7 5,oW 51 (.call (oF 136) [.t 48,.t 49,.t 50]),oM 47 51,oX 52 47 0,oX 53 47 1,oS 6 3 52,oM 9 53]) (oQ [oW 55 (.arith .eql (.t 13) (oI 5)),oM 54 55]
 (.cond (.t 54) (oQ [oL 57 6 3,oM 58 1,oL 59 7 5,oW 60 (.call (oF 97) [.t 57,.t 58,.t 59]),oM 56 60,oX 61 56 0,oX 62 56 1,oM 10 61,oM 11 62]
 (oQ [oL 63 6 3,oM 64 10,oM 65 11,oS 6 6 63,oM 7 64,oM 8 65]
 .ret)) .skip))))))))))))
 (oQ [oL 66 6 3,oM 67 9,oS 6 6 66,oM 7 67,oW 8 (.move (.c .nsl))]
 .ret))))}
theorem c52:aD Tryz.prog Tryz.f52 .frz=some t52:=by kernel_rfl
def YL:aI :=
 (.seq (oQ [oM 5 0,oW 6 (.makeIface 143 (.t 4)),oW 7 (.call (oF 62) [.t 5,.t 6])]
 (.cond (.t 7) .skip (.exit 0)))
 (.block 1 (oQ [oM 8 3,oD 9 4,oW 10 (.buildSlice 140 1 .nilp 1 [(0,.t 9)]),oW 11 (.append 140 1 8 (.t 8) (.t 10)),oM 3 11]
 (.region [oD 12 4,oW 13 (.nilCheck (.t 12)),oA 14 2 13,oD 15 14,oM 0 15]))))
def YM:aI :=
 (oQ [oM 16 3,oM 2 16]
 .ret)
def t63:aL:={ntmps:=17,results:=[.t 2],mode:=.full,body :=
 (oQ [oW 2 (.move (.c .nsl))]
 (oQ [oW 3 (.move (.c .nsl))]
 (oQ [oW 4 (.alloc 140 1 .nilp)]
 (.seq (.block 0 (.loop YL))
 YM))))}
theorem c63:aD Tryz.prog Tryz.f63 .full=some t63:=by kernel_rfl
def t64:aL:={ntmps:=14,results:=[(.cell 4 (some 6))],mode:=.pure,body :=
 (oQ [oW 4 (.alloc 37 6 (.agg [.int .i64 0,.nsl,.nsl,.nsl,.nsl,.nsl]))]
 (oQ [oM 6 1,oW 7 (.call (oF 88) [.t 6]),oM 5 7]
 (oQ [oM 8 5,oW 9 (.call (oF 142) [.t 8])]
 (oQ [oM 10 0,oM 11 5,oW 12 (.call (oF 143) [.t 11]),oW 13 (.build [.int .i64 0,.nsl,.nsl,.nsl,.nsl,.nsl] [(0,1,.t 10),(1,1,.t 12)]),oS 6 4 13]
 .ret))))}
theorem c64:aD Tryz.prog Tryz.f64 .pure=some t64:=by kernel_rfl
def O2:aI :=
 (oQ [oW 11 (.arith .lss (.t 10) (.t 9))]
 (.seq (.cond (.t 11) .skip (.exit 0))
 (.seq (.block 1 (oQ [oM 12 10,oW 13 (.indexAddr 2 (.t 8) (.t 10)),oL 14 2 13,oW 5 (.alloc 86 2 (.agg [.int .i64 0,.int .i64 0])),oM 4 12,oS 2 5 14]
 (.seq (oQ [oL 15 2 1,oL 16 2 5,oW 17 (.call (oF 101) [.t 15,.t 16]),oW 18 (.un .not (.t 17)),oM 19 18,gM 20 3 19 false,gL 21 2 5 19 false,gW 22 (.call (oF 171) [.t 21]) 19 false,gW 23 (.lookup (.agg [1,1]) (.bool false) false (.t 20) (.t 22)) 19 false,oW 24 (.pick (.t 19) (oB true) (.t 23))]
 (.cond (.t 24) (oQ [oM 25 4,oW 26 (.makeIface 57 (oI 2)),oW 27 (.call (oF 49) [(.c (.str [103,114,97,112,104])),.t 25,.t 26]),oM 2 27]
 .ret) .skip))
 (.region [oM 28 3,oL 29 2 5,oW 30 (.call (oF 171) [.t 29]),oZ (.mapUpdate (.agg [1,1]) (.t 28) (.t 30) (oB true))]))))
 (.region [oW 31 (.arith .add (.t 10) (oI 1)),oM 10 31]))))
def O3:aI :=
 (.seq (.seq (.draw [oRA 32 0 1,oRD 33 32,oR 34 (.arith .lss (.t 33) (oI 1)),oRM 35 34,rA 36 0 1 35 false,rD 37 36 35 false,rW 38 (.arith .gtr (.t 37) (oI 64)) 35 false,oR 39 (.pick (.t 35) (oB true) (.t 38)),oRM 40 39,rA 41 1 1 40 false,rD 42 41 40 false,rW 43 (.len 1 (.t 42)) 40 false,rW 44 (.arith .gtr (.t 43) (oI 200)) 40 false,oR 45 (.pick (.t 40) (oB true) (.t 44)),oRM 46 45,rL 47 2 1 46 false,⟨(some 48),.call (oF 172) [.t 47,oI 0],(some (46,false)),.create,0,false⟩,⟨(some 49),.len 2 (.t 48),(some (46,false)),.read,1,false⟩,rA 50 0 1 46 false,rD 51 50 46 false,⟨(some 52),.arith .neq (.t 49) (.t 51),(some (46,false)),.read,1,false⟩,nK 53 (.pick (.t 46) (oB true) (.t 52)) .read 1])
 (.cond (.t 53) (oQ [oW 54 (.makeIface 57 (oI 2)),oW 55 (.call (oF 49) [(.c (.str [103,114,97,112,104])),(oI (-1)),.t 54]),oM 2 55]
 .ret) .skip))
 (oQ [oW 2 (.move (.c .nili))]
 .ret))
def t73:aL:={ntmps:=56,results:=[.t 2],mode:=.pure,body :=
 (oQ [oW 1 (.box 76 2 (.t 0)),oW 2 (.move (.c .nili))]
 (oQ [oW 6 (.makeMap),oM 3 6]
 (.seq (oQ [oA 7 1 1,oD 8 7,oW 9 (.len 1 (.t 8)),oW 10 (.move (oI 0))]
 (.block 0 (.loop O2)))
 O3)))}
theorem c73:aD Tryz.prog Tryz.f73 .pure=some t73:=by kernel_rfl
def t74:aL:={ntmps:=8,results:=[(.cell 2 (some 2))],mode:=.pure,body :=
 (oQ [oW 1 (.box 76 2 (.t 0)),oW 2 (.alloc 76 2 (.agg [.int .i64 0,.nsl]))]
 (oQ [oA 3 1 1,oD 4 3,oW 5 (.call (oF 173) [.t 4]),oA 6 1 1,oS 1 6 5]
 (oQ [oL 7 2 1,oS 2 2 7]
 .ret)))}
theorem c74:aD Tryz.prog Tryz.f74 .pure=some t74:=by kernel_rfl
def t75:aL:={ntmps:=8,results:=[.t 2],mode:=.full,body :=
 (oQ [oW 1 (.box 76 2 (.t 0)),oW 2 (.move (.c .nilp))]
 (oQ [oL 3 2 1,oW 4 (.call (oF 40) [.t 3]),oW 5 (.makeMap),oW 6 (.build [.nsl,.nmap] [(0,1,.t 4),(1,1,.t 5)]),oW 7 (.box 271 2 (.t 6)),oM 2 7]
 .ret))}
theorem c75:aD Tryz.prog Tryz.f75 .full=some t75:=by kernel_rfl
def O1:aI :=
 (oQ [oW 12 (.arith .lss (.t 11) (.t 10))]
 (.seq (.cond (.t 12) .skip (.exit 0))
 (.seq (.block 1 (oQ [oW 13 (.indexAddr 2 (.t 9) (.t 11)),oL 14 2 13,oW 7 (.alloc 86 2 (.agg [.int .i64 0,.int .i64 0])),oS 2 7 14]
 (.block 2 (oQ [oL 16 2 2,oL 17 2 7,oW 18 (.call (oF 101) [.t 16,.t 17]),oW 19 (.un .not (.t 18)),oM 15 19]
 (.cond (.t 15) .skip (oQ [oW 21 (.indexArr 2 1 (.t 7) (oI 0)),oD 22 21,oM 23 1,oW 24 (.arith .eql (.t 22) (.t 23)),oM 20 24]
 (.cond (.t 20) (.region [oM 25 5,oW 26 (.indexArr 2 1 (.t 7) (oI 1)),oD 27 26,oW 28 (.buildSlice 3 1 (.int .i64 0) 1 [(0,.t 27)]),oW 29 (.append 3 1 8 (.t 25) (.t 28)),oM 5 29]) (oQ [oW 31 (.indexArr 2 1 (.t 7) (oI 1)),oD 32 31,oM 33 1,oW 34 (.arith .eql (.t 32) (.t 33)),oM 30 34]
 (.cond (.t 30) (.region [oM 35 5,oW 36 (.indexArr 2 1 (.t 7) (oI 0)),oD 37 36,oW 38 (.buildSlice 3 1 (.int .i64 0) 1 [(0,.t 37)]),oW 39 (.append 3 1 8 (.t 35) (.t 38)),oM 5 39]) .skip)))))))))
 (.region [oW 40 (.arith .add (.t 11) (oI 1)),oM 11 40]))))
def Rw:aI :=
 (oQ [oM 41 5,oW 42 (.call (oF 142) [.t 41])]
 (oQ [oM 43 5,oW 44 (.call (oF 143) [.t 43]),oM 4 44]
 .ret))
def t76:aL:={ntmps:=45,results:=[.t 4],mode:=.pure,body :=
 (oQ [oW 2 (.box 76 2 (.t 0)),oW 4 (.move (.c .nsl))]
 (oQ [oW 5 (.move (.c .nsl))]
 (.seq (oQ [oA 8 1 2,oD 9 8,oW 10 (.len 1 (.t 9)),oW 11 (.move (oI 0))]
 (.block 0 (.loop O1)))
 Rw)))}
theorem c76:aD Tryz.prog Tryz.f76 .pure=some t76:=by kernel_rfl
def t77:aL:={ntmps:=39,results:=[.t 6],mode:=.full,body :=
 (oQ [oW 6 (.move (.c .nili))]
 (.seq (oQ [oM 9 0,oM 10 1,oW 11 (.call (oF 87) [.t 9,.t 10]),oW 12 (.un .not (.t 11))]
 (.cond (.t 12) (oQ [oM 13 1,oW 14 (.makeIface 57 (oI 3)),oW 15 (.call (oF 49) [(.c (.str [110,101,116])),.t 13,.t 14]),oM 6 15]
 .ret) .skip))
 (oQ [oM 17 2,oM 18 0,oW 19 (.nilCheck (.t 18)),oA 20 2 19,oD 21 20,oM 22 1,oW 23 (.indexAddr 6 (.t 21) (.t 22)),oL 24 6 23,oW 25 (.call (.t 17) [.t 24]),oM 16 25,oX 26 16 0,oX 27 16 1,oW 7 (.alloc 37 6 (.agg [.int .i64 0,.nsl,.nsl,.nsl,.nsl,.nsl])),oS 6 7 26,oM 8 27]
 (.seq (.draw [oRM 28 0,oR 29 (.nilCheck (.t 28)),oRA 30 2 29,oRD 31 30,oRL 33 6 7,oRM 32 1,oR 34 (.indexAddr 6 (.t 31) (.t 32)),oS 6 34 33])
 (oQ [oM 35 0,oM 36 1,oM 37 8,oW 38 (.call (oF 85) [.t 35,.t 36,.t 37])]
 (oQ [oW 6 (.move (.c .nili))]
 .ret))))))}
theorem c77:aD Tryz.prog Tryz.f77 .full=some t77:=by kernel_rfl
def t78:aL:={ntmps:=12,results:=[(.cell 4 (some 6)),.t 5],mode:=.full,body :=
 (oQ [oW 3 (.box 37 6 (.t 0)),oW 4 (.alloc 37 6 (.agg [.int .i64 0,.nsl,.nsl,.nsl,.nsl,.nsl])),oW 5 (.move (.c .nsl))]
 (oQ [oL 6 6 3,oL 7 2 1,oD 8 2,oW 9 (.call (oF 79) [.t 6,(oI (-1)),.t 7,.t 8]),oX 10 9 0,oX 11 9 1,oS 6 4 10,oM 5 11]
 .ret))}
theorem c78:aD Tryz.prog Tryz.f78 .full=some t78:=by kernel_rfl
def QX:aI :=
 (oQ [oW 39 (.arith .lss (.t 38) (.t 37))]
 (.seq (.cond (.t 39) .skip (.exit 0))
 (.seq (.block 1 (oQ [oW 40 (.indexAddr 3 (.t 36) (.t 38)),oL 41 3 40,oW 14 (.alloc 134 3 (.agg [.int .i64 0,.int .i64 0,.nsl])),oS 3 14 41]
 (.seq (oQ [oA 42 2 14,oD 43 42,oM 44 3,oW 45 (.call (oF 176) [.t 43,.t 44]),oW 46 (.un .not (.t 45))]
 (.cond (.t 46) (.exit 1) .skip))
 (oQ [oL 47 2 6,oA 48 0 14,oL 49 2 48,oA 50 2 14,oD 51 50,oW 52 (.build [.int .i64 0,.int .i64 0,.int .i64 0,.int .i64 0,.nsl,.int .i64 0,.bool false] [(0,2,.t 47),(2,2,.t 49),(4,1,.t 51),(5,1,(oI (-1)))]),oW 15 (.alloc 70 7 (.agg [.int .i64 0,.int .i64 0,.int .i64 0,.int .i64 0,.nsl,.int .i64 0,.bool false])),oS 7 15 52]
 (oQ [oW 16 (.move (oB false))]
 (oQ [oL 54 6 10,oL 55 7 15,oW 56 (.call (oF 177) [.t 54,.t 55]),oM 53 56,oX 57 53 0,oX 58 53 1,oS 6 10 57,oM 16 58]
 (oQ [oM 59 16]
 (.cond (.t 59) (.region [oM 60 12,oM 61 1,oL 62 7 15,oW 63 (.call (oF 178) [.t 62]),oW 64 (.build [.int .i64 0,.int .i64 0,.int .i64 0,.int .i64 0,.int .i64 0,.int .i64 0,.nsl,.nsl] [(0,1,.t 61),(1,7,.t 63)]),oW 65 (.buildSlice 206 8 (.agg [.int .i64 0,.int .i64 0,.int .i64 0,.int .i64 0,.int .i64 0,.int .i64 0,.nsl,.nsl]) 1 [(0,.t 64)]),oW 66 (.append 206 8 96 (.t 60) (.t 65)),oM 12 66]) .skip))))))))
 (.region [oW 67 (.arith .add (.t 38) (oI 1)),oM 38 67]))))
def QY:aI :=
 (oQ [oL 68 6 10,oM 69 12,oS 6 8 68,oM 9 69]
 .ret)
def t79:aL:={ntmps:=70,results:=[(.cell 8 (some 6)),.t 9],mode:=.frz,body :=
 (oQ [oW 4 (.box 37 6 (.t 0)),oW 6 (.box 45 2 (.t 2)),oW 8 (.alloc 37 6 (.agg [.int .i64 0,.nsl,.nsl,.nsl,.nsl,.nsl])),oW 9 (.move (.c .nsl))]
 (oQ [oL 18 6 4,oL 19 2 6,oM 20 3,oM 21 1,oW 22 (.build [.int .i64 0,.int .i64 0,.nsl,.int .i64 0] [(0,2,.t 19),(2,1,.t 20),(3,1,.t 21)]),oW 23 (.call (oF 174) [.t 18,.t 22]),oM 17 23,oX 24 17 0,oX 25 17 1,oW 10 (.alloc 37 6 (.agg [.int .i64 0,.nsl,.nsl,.nsl,.nsl,.nsl])),oS 6 10 24,oM 11 25]
 (.seq (oQ [oM 26 11,oW 27 (.un .not (.t 26))]
 (.cond (.t 27) (oQ [oL 28 6 4,oS 6 8 28,oW 9 (.move (.c .nsl))]
 .ret) .skip))
 (oQ [oL 29 6 4,oM 30 1,oL 31 2 6,oM 32 3,oW 33 (.build [.int .i64 0,.int .i64 0,.int .i64 0,.int .i64 0,.int .i64 0,.nsl,.nsl] [(0,1,oI 1),(1,2,.t 31),(5,1,.t 32)]),oW 34 (.call (oF 175) [.t 29,.t 30,.t 33]),oM 12 34]
 (.seq (oQ [oA 35 5 4,oD 36 35,oW 37 (.len 1 (.t 36)),oW 38 (.move (oI 0))]
 (.block 0 (.loop QX)))
 QY)))))}
theorem c79:aD Tryz.prog Tryz.f79 .frz=some t79:=by kernel_rfl
def N9:aI :=
 (oQ [oW 12 (.arith .lss (.t 11) (.t 10))]
 (.seq (.cond (.t 12) .skip (.exit 0))
 (.seq (.block 1 (oQ [oW 13 (.indexAddr 2 (.t 9) (.t 11)),oL 14 2 13,oW 5 (.alloc 86 2 (.agg [.int .i64 0,.int .i64 0])),oS 2 5 14]
 (.seq (.draw [oRM 15 0,oR 16 (.nilCheck (.t 15)),oRA 17 1 16,oRD 18 17,oRL 19 2 5,oR 20 (.lookup (.agg [1,1]) .nsl false (.t 18) (.t 19)),oR 21 (.len 1 (.t 20)),oR 22 (.arith .gtr (.t 21) (oI 0))])
 (.cond (.t 22) (.region [oM 23 3,oL 24 2 5,oW 25 (.buildSlice 86 2 (.agg [.int .i64 0,.int .i64 0]) 1 [(0,.t 24)]),oW 26 (.append 86 2 16 (.t 23) (.t 25)),oM 3 26]) .skip))))
 (.region [oW 27 (.arith .add (.t 11) (oI 1)),oM 11 27]))))
def O0:aI :=
 (oQ [oM 28 3,oM 2 28]
 .ret)
def t82:aL:={ntmps:=29,results:=[.t 2],mode:=.full,body :=
 (oQ [oW 2 (.move (.c .nsl))]
 (oQ [oW 3 (.move (.c .nsl))]
 (.seq (oQ [oM 6 0,oW 7 (.nilCheck (.t 6)),oA 8 0 7,oD 9 8,oW 10 (.len 1 (.t 9)),oW 11 (.move (oI 0))]
 (.block 0 (.loop N9)))
 O0)))}
theorem c82:aD Tryz.prog Tryz.f82 .full=some t82:=by kernel_rfl
def t84:aL:={ntmps:=35,results:=[(.cell 6 (some 7)),.t 7],mode:=.full,body :=
 (oQ [oW 6 (.alloc 49 7 (.agg [.int .i64 0,.int .i64 0,.int .i64 0,.int .i64 0,.int .i64 0,.nsl,.nsl])),oW 7 (.move (.c .nili))]
 (oQ [oM 10 1,oM 11 2,oW 12 (.build [.int .i64 0,.int .i64 0] [(0,1,.t 10),(1,1,.t 11)]),oW 8 (.alloc 86 2 (.agg [.int .i64 0,.int .i64 0])),oS 2 8 12]
 (.seq (.draw [oRM 13 0,oR 14 (.nilCheck (.t 13)),oRA 15 1 14,oRD 16 15,oRL 17 2 8,oR 18 (.lookup (.agg [1,1]) .nsl false (.t 16) (.t 17)),oRM 9 18])
 (.seq (oQ [oM 19 9,oW 20 (.len 1 (.t 19)),oW 21 (.arith .eql (.t 20) (oI 0))]
 (.cond (.t 21) (oQ [oW 22 (.build [.int .i64 0,.int .i64 0,.int .i64 0,.int .i64 0,.int .i64 0,.nsl,.nsl] []),oM 23 1,oW 24 (.call (oF 181) [.t 23]),oS 7 6 22,oM 7 24]
 .ret) .skip))
 (.seq (.draw [oRM 25 0,oR 26 (.nilCheck (.t 25)),oRA 27 1 26,oRD 28 27,oRL 29 2 8,oRM 30 9,oR 31 (.sliceSl 7 (.t 30) (some (oI 1)) none),oZ (.mapUpdate (.agg [1,1]) (.t 28) (.t 29) (.t 31))])
 (oQ [oM 32 9,oW 33 (.indexAddr 7 (.t 32) (oI 0)),oL 34 7 33,oS 7 6 34,oW 7 (.move (.c .nili))]
 .ret))))))}
theorem c84:aD Tryz.prog Tryz.f84 .full=some t84:=by kernel_rfl
def Fu:aI :=
 (oQ [oW 11 (.arith .lss (.t 10) (.t 9))]
 (.seq (.cond (.t 11) .skip (.exit 0))
 (.seq (.block 1 (oQ [oW 12 (.indexAddr 8 (.t 8) (.t 10)),oL 13 8 12,oW 7 (.alloc 206 8 (.agg [.int .i64 0,.int .i64 0,.int .i64 0,.int .i64 0,.int .i64 0,.int .i64 0,.nsl,.nsl])),oS 8 7 13]
 (.seq (.draw [oRM 14 0,oR 15 (.nilCheck (.t 14)),oRA 16 3 15,oRD 17 16,oRA 19 0 7,oRD 20 19,oRA 21 1 7,oRL 22 7 21,oRM 18 1,nK 23 (.buildSlice 49 7 (.agg [.int .i64 0,.int .i64 0,.int .i64 0,.int .i64 0,.int .i64 0,.nsl,.nsl]) 1 [(0,.t 22)]) .create 0,nK 24 (.call (oF 182) [.t 17,.t 18,.t 20,.t 23]) .write 1])
 (oQ [oA 25 1 7,oA 26 0 25,oD 27 26,oW 28 (.arith .eql (.t 27) (oI 5))]
 (.cond (.t 28) (.draw [oRM 30 0,oR 31 (.nilCheck (.t 30)),oRA 32 4 31,oRD 33 32,oRA 35 0 7,oRD 36 35,oRA 37 1 7,oRA 38 3 37,oRL 39 2 38,oRM 34 1,oR 40 (.build [.int .i64 0,.int .i64 0,.int .i64 0,.int .i64 0] [(0,1,.t 34),(1,1,.t 36),(2,2,.t 39)]),nK 41 (.buildSlice 180 4 (.agg [.int .i64 0,.int .i64 0,.int .i64 0,.int .i64 0]) 1 [(0,.t 40)]) .create 0,nK 42 (.append 180 4 32 (.t 33) (.t 41)) .write 1,oRM 29 0,nK 43 (.nilCheck (.t 29)) .read 2,nK 44 (.fieldAddr 4 (.t 43)) .read 2,⟨none,.store 1 (.t 44) (.t 42),none,.write,2,false⟩]) .skip)))))
 (.region [oW 45 (.arith .add (.t 10) (oI 1)),oM 10 45]))))
def t85:aL:={ntmps:=46,results:=[],mode:=.full,body :=
 (oQ [oM 8 2,oW 9 (.len 1 (.t 8)),oW 10 (.move (oI 0))]
 (.block 0 (.loop Fu)))}
theorem c85:aD Tryz.prog Tryz.f85 .full=some t85:=by kernel_rfl
def t86:aL:={ntmps:=12,results:=[.t 4,.t 5],mode:=.pure,body :=
 (oQ [oW 2 (.box 37 6 (.t 0)),oW 3 (.box 45 2 (.t 1)),oW 4 (.move (oI 0)),oW 5 (.move (oB false))]
 (oQ [oA 6 2 2,oD 7 6,oL 8 2 3,oW 9 (.call (oF 183) [.t 7,.t 8,oF 184]),oX 10 9 0,oX 11 9 1,oM 4 10,oM 5 11]
 .ret))}
theorem c86:aD Tryz.prog Tryz.f86 .pure=some t86:=by kernel_rfl
def t87:aL:={ntmps:=16,results:=[.t 4],mode:=.full,body :=
 (oQ [oW 4 (.move (oB false))]
 (oQ [oM 5 1,oW 6 (.arith .geq (.t 5) (oI 0)),oM 7 6,gM 8 1 7 true,gM 9 0 7 true,gW 10 (.nilCheck (.t 9)) 7 true,gA 11 2 10 7 true,gD 12 11 7 true,gW 13 (.len 1 (.t 12)) 7 true,gW 14 (.arith .lss (.t 8) (.t 13)) 7 true,oW 15 (.pick (.t 7) (.t 14) (oB false)),oM 4 15]
 .ret))}
theorem c87:aD Tryz.prog Tryz.f87 .full=some t87:=by kernel_rfl
def t94:aL:={ntmps:=12,results:=[(.cell 4 (some 6)),.t 5],mode:=.full,body :=
 (oQ [oW 3 (.box 37 6 (.t 0)),oW 4 (.alloc 37 6 (.agg [.int .i64 0,.nsl,.nsl,.nsl,.nsl,.nsl])),oW 5 (.move (.c .nsl))]
 (oQ [oL 6 6 3,oL 7 2 1,oD 8 2,oW 9 (.call (oF 95) [.t 6,.t 7,.t 8]),oX 10 9 0,oX 11 9 1,oS 6 4 10,oM 5 11]
 .ret))}
theorem c94:aD Tryz.prog Tryz.f94 .full=some t94:=by kernel_rfl
def YJ:aI :=
 (oQ [oW 37 (.arith .lss (.t 36) (.t 35))]
 (.seq (.cond (.t 37) .skip (.exit 0))
 (.seq (.block 1 (oQ [oW 38 (.indexAddr 4 (.t 34) (.t 36)),oL 39 4 38,oW 12 (.alloc 68 4 (.agg [.int .i64 0,.int .i64 0,.nsl,.int .i64 0])),oS 4 12 39]
 (.seq (oQ [oM 40 2,oA 41 2 12,oD 42 41,oW 43 (.call (oF 176) [.t 40,.t 42]),oW 44 (.un .not (.t 43))]
 (.cond (.t 44) (.exit 1) .skip))
 (oQ [oL 46 6 3,oA 47 0 12,oL 48 2 47,oL 49 2 4,oM 50 2,oW 51 (.build [.int .i64 0,.int .i64 0,.int .i64 0,.int .i64 0,.nsl,.int .i64 0,.bool false] [(0,2,.t 48),(2,2,.t 49),(4,1,.t 50),(5,1,(oI (-1)))]),oW 52 (.call (oF 187) [.t 46,.t 51]),oM 45 52,oX 53 45 0,oX 54 45 1,oW 13 (.alloc 37 6 (.agg [.int .i64 0,.nsl,.nsl,.nsl,.nsl,.nsl])),oS 6 13 53,oM 14 54]
 (.draw [oRL 55 6 13,oRM 56 10,oRM 57 14,nK 58 (.append 206 8 96 (.t 56) (.t 57)) .create 0,⟨none,.store 6 (.t 3) (.t 55),none,.write,1,false⟩,nK 10 (.move (.t 58)) .read 2])))))
 (.region [oW 59 (.arith .add (.t 36) (oI 1)),oM 36 59]))))
def YK:aI :=
 (oQ [oL 60 6 3,oM 61 10,oS 6 6 60,oM 7 61]
 .ret)
def t95:aL:={ntmps:=62,results:=[(.cell 6 (some 6)),.t 7],mode:=.frz,body :=
 (oQ [oW 3 (.box 37 6 (.t 0)),oW 4 (.box 45 2 (.t 1)),oW 6 (.alloc 37 6 (.agg [.int .i64 0,.nsl,.nsl,.nsl,.nsl,.nsl])),oW 7 (.move (.c .nsl))]
 (oQ [oL 16 6 3,oL 17 2 4,oW 18 (.call (oF 185) [.t 16,.t 17]),oM 15 18,oX 19 15 0,oX 20 15 1,oM 8 19,oM 9 20]
 (.seq (oQ [oM 21 9]
 (.cond (.t 21) (oQ [oL 22 6 3,oS 6 6 22,oW 7 (.move (.c .nsl))]
 .ret) .skip))
 (.seq (.draw [oRA 23 5 3,oRD 24 23,nK 25 (.call (oF 92) [.t 24]) .create 0,oRL 27 2 4,oRM 26 8,oRM 28 2,oR 29 (.build [.int .i64 0,.int .i64 0,.nsl] [(0,2,.t 27),(2,1,.t 28)]),nK 30 (.buildSlice 134 3 (.agg [.int .i64 0,.int .i64 0,.nsl]) 1 [(0,.t 29)]) .create 0,nK 31 (.call (oF 186) [.t 25,.t 26,.t 30]) .write 2,nK 32 (.fieldAddr 5 (.t 3)) .read 3,⟨none,.store 1 (.t 32) (.t 31),none,.write,3,false⟩])
 (oQ [oW 10 (.move (.c .nsl))]
 (.seq (oQ [oA 33 2 3,oD 34 33,oW 35 (.len 1 (.t 34)),oW 36 (.move (oI 0))]
 (.block 0 (.loop YJ)))
 YK))))))}
theorem c95:aD Tryz.prog Tryz.f95 .frz=some t95:=by kernel_rfl
def t96:aL:={ntmps:=22,results:=[(.cell 6 (some 6)),.t 7],mode:=.full,body :=
 (oQ [oW 5 (.box 37 6 (.t 0)),oW 6 (.alloc 37 6 (.agg [.int .i64 0,.nsl,.nsl,.nsl,.nsl,.nsl])),oW 7 (.move (.c .nsl))]
 (oQ [oL 11 6 5,oL 12 2 1,oL 13 2 2,oD 14 3,oW 15 (.build [.int .i64 0,.int .i64 0,.int .i64 0,.int .i64 0,.int .i64 0,.nsl,.nsl] [(0,1,oI 5),(1,2,.t 12),(3,2,.t 13),(6,1,.t 14)]),oW 16 (.call (oF 97) [.t 11,(oI (-1)),.t 15]),oM 10 16,oX 17 10 0,oX 18 10 1,oM 8 17,oM 9 18]
 (oQ [oM 19 9,oS 1 4 19]
 (oQ [oL 20 6 5,oM 21 8,oS 6 6 20,oM 7 21]
 .ret))))}
theorem c96:aD Tryz.prog Tryz.f96 .full=some t96:=by kernel_rfl
end Go.Dm.Tc
