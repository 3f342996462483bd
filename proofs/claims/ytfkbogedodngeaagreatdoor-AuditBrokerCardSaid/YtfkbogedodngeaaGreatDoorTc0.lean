/- A part of the proof. -/
import Derived.Test.YtfkbogedodngeaaGreatDoorMm4
import Derived.Test.YtfkbogedodngeaaGreatDoorRows
import Derived.KernelRfl
namespace Go.Dm.Tc
open Go.Proofs
abbrev oQ(l:List aR)(c:aM):aM:=.seq (.region l) c
abbrev gW(d:Nat)(op:DOp)(g:Nat)(b:Bool):aR:=⟨some d,op,some (g,b),.write,0,false⟩
abbrev gM(d x g:Nat)(b:Bool):aR:=⟨some d,.move (.t x),some (g,b),.write,0,false⟩
abbrev gA(d o x g:Nat)(b:Bool):aR:=⟨some d,.fieldAddr o (.t x),some (g,b),.write,0,false⟩
abbrev gD(d x g:Nat)(b:Bool):aR:=⟨some d,.load none (.t x),some (g,b),.write,0,false⟩
abbrev gL(d n x g:Nat)(b:Bool):aR:=⟨some d,.load (some n) (.t x),some (g,b),.write,0,false⟩
abbrev rW(d:Nat)(op:DOp)(g:Nat)(b:Bool):aR:=⟨some d,op,some (g,b),.read,0,false⟩
abbrev rM(d x g:Nat)(b:Bool):aR:=⟨some d,.move (.t x),some (g,b),.read,0,false⟩
abbrev rA(d o x g:Nat)(b:Bool):aR:=⟨some d,.fieldAddr o (.t x),some (g,b),.read,0,false⟩
abbrev rD(d x g:Nat)(b:Bool):aR:=⟨some d,.load none (.t x),some (g,b),.read,0,false⟩
abbrev rL(d n x g:Nat)(b:Bool):aR:=⟨some d,.load (some n) (.t x),some (g,b),.read,0,false⟩
abbrev nK(d:Nat)(op:DOp)(k:tQ)(s:Nat):aR:=⟨some d,op,none,k,s,false⟩
def t4:aS:={ntmps:=88,results:=[.t 4],mode:=.pure,body :=
 (oQ [oW 2 (.box 24 2 (.t 0)),oW 4 (.move (oB false))]
 (oQ [oL 11 2 2,oW 12 (.call (oF 9) [.t 11]),oW 5 (.alloc 37 6 (.agg [.int .i64 0,.nsl,.nsl,.nsl,.nsl,.nsl])),oS 6 5 12]
 (oQ [oM 13 1,oW 14 (.call (oF 10) [.t 13,oI 0,oI 60]),oA 15 0 5,oS 1 15 14]
 (.seq (oQ [oL 16 6 5,oW 17 (.call (oF 20) [.t 16]),oW 18 (.eqn 4 true (.t 17) (.c .nili))]
 (.cond (.t 18) (oQ [oW 4 (.move (oB false))]
 .ret) .skip))
 (oQ [oW 19 (.build [.int .i64 0,.int .i64 0] [(0,1,oI 25)]),oW 6 (.alloc 45 2 (.agg [.int .i64 0,.int .i64 0])),oS 2 6 19]
 (oQ [oL 20 6 5,oW 21 (.call (oF 21) [.t 20]),oW 7 (.alloc 37 6 (.agg [.int .i64 0,.nsl,.nsl,.nsl,.nsl,.nsl])),oS 6 7 21]
 (.seq (.draw [oRA 22 2 7,oRD 23 22,oRL 24 2 6,oRA 25 1 5,oRD 26 25,oR 27 (.indexAddr 1 (.t 26) (oI 0)),oRD 28 27,oR 29 (.build [.int .i64 0,.int .i64 0,.nsl,.int .i64 0] [(0,2,.t 24),(3,1,.t 28)]),nK 30 (.buildSlice 68 4 (.agg [.int .i64 0,.int .i64 0,.nsl,.int .i64 0]) 1 [(0,.t 29)]) .create 0,nK 31 (.append 68 4 48 (.t 23) (.t 30)) .write 1,nK 32 (.fieldAddr 2 (.t 7)) .read 2,⟨none,.store 1 (.t 32) (.t 31),none,.write,2,false⟩])
 (oQ [oA 33 3 7,oD 34 33,oL 35 2 6,oW 36 (.buildSlice 45 2 (.agg [.int .i64 0,.int .i64 0]) 1 [(0,.t 35)]),oW 37 (.append 45 2 16 (.t 34) (.t 36)),oA 38 3 7,oS 1 38 37]
 (oQ [oL 39 6 7,oW 40 (.call (oF 20) [.t 39]),oW 41 (.eqn 4 false (.t 40) (.c .nili)),oM 8 41]
 (oQ [oA 42 4 7,oD 43 42,oL 44 2 6,oL 45 2 6,oW 46 (.build [.int .i64 0,.int .i64 0,.int .i64 0,.int .i64 0,.nsl,.int .i64 0,.bool false] [(0,2,.t 44),(2,2,.t 45),(5,1,(oI (-1)))]),oW 47 (.buildSlice 70 7 (.agg [.int .i64 0,.int .i64 0,.int .i64 0,.int .i64 0,.nsl,.int .i64 0,.bool false]) 1 [(0,.t 46)]),oW 48 (.append 70 7 72 (.t 43) (.t 47)),oA 49 4 7,oS 1 49 48]
 (oQ [oL 50 6 7,oW 51 (.call (oF 20) [.t 50]),oM 9 51]
 (oQ [oA 52 4 7,oD 53 52,oA 54 4 7,oD 55 54,oW 56 (.len 1 (.t 55)),oW 57 (.arith .sub (.t 56) (oI 1)),oW 58 (.indexAddr 7 (.t 53) (.t 57)),oA 59 6 58,oZ (.store 1 (.t 59) (oB true))]
 (oQ [oL 60 6 7,oW 61 (.call (oF 20) [.t 60]),oM 10 61]
 (.seq (.draw [oRM 62 8,oRM 63 62,rM 64 9 63 true,gW 65 (.call (oF 15) [.t 64]) 63 true,⟨(some 66),.arith .eql (.t 65) (oI 4),(some (63,true)),.read,1,false⟩,nK 67 (.pick (.t 63) (.t 66) (oB false)) .read 1,nK 68 (.move (.t 67)) .read 1,⟨(some 69),.move (.t 9),(some (68,true)),.read,1,false⟩,⟨(some 70),.call (oF 18) [.t 69],(some (68,true)),.create,1,false⟩,⟨(some 71),.fieldAddr 0 (.t 5),(some (68,true)),.read,1,false⟩,⟨(some 72),.load none (.t 71),(some (68,true)),.read,1,false⟩,⟨(some 73),.arith .eql (.t 70) (.t 72),(some (68,true)),.read,2,false⟩,nK 74 (.pick (.t 68) (.t 73) (oB false)) .read 2,nK 75 (.move (.t 74)) .read 2,⟨(some 76),.move (.t 9),(some (75,true)),.read,2,false⟩,⟨(some 77),.call (oF 17) [.t 76],(some (75,true)),.write,2,false⟩,⟨(some 78),.buildSlice 9 1 (.str []) 1 [(0,(.c (.str [98,114,111,107,101,114])))],(some (75,true)),.create,0,false⟩,⟨(some 79),.call (oF 16) [.t 77,.t 78],(some (75,true)),.write,4,false⟩,nK 80 (.pick (.t 75) (.t 79) (oB false)) .read 5,nK 81 (.move (.t 80)) .read 5,⟨(some 82),.move (.t 10),(some (81,true)),.read,5,false⟩,⟨(some 83),.eqn 4 false (.t 82) (.c .nili),(some (81,true)),.read,5,false⟩,nK 84 (.pick (.t 81) (.t 83) (oB false)) .read 5,nK 85 (.move (.t 84)) .read 5,⟨(some 86),.call (oF 22) [],(some (85,true)),.write,5,false⟩,nK 87 (.pick (.t 85) (.t 86) (oB false)) .read 6,nK 4 (.move (.t 87)) .read 6])
 .ret))))))))))))))}
theorem c4:aH Tryz.prog Tryz.f4 .pure=some t4:=by kernel_rfl
def YS:aM :=
 (.region [oW 25 (.arith .add (.t 15) (oI 1)),oM 15 25])
def OR:aM :=
 (oQ [oW 16 (.arith .lss (.t 15) (.t 14))]
 (.seq (.cond (.t 16) .skip (.exit 0))
 (.seq (.block 1 (oQ [oM 17 15,oM 4 17]
 (.region [oA 18 1 3,oD 19 18,oM 20 4,oW 21 (.arith .add (.t 20) (oI 1)),oW 22 (.buildSlice 3 1 (.int .i64 0) 1 [(0,.t 21)]),oW 23 (.append 3 1 8 (.t 19) (.t 22)),oA 24 1 3,oS 1 24 23])))
 YS)))
def tZ:aM :=
 (.region [oM 35 5,oW 36 (.arith .add (.t 35) (oI 1)),oM 5 36])
def Ty:aM :=
 (.seq (oQ [oM 26 5,oA 27 1 1,oD 28 27,oW 29 (.len 1 (.t 28)),oW 30 (.arith .lss (.t 26) (.t 29)),oM 31 30,gM 32 5 31 true,gW 33 (.arith .lss (.t 32) (oI 12)) 31 true,oW 34 (.pick (.t 31) (.t 33) (oB false))]
 (.cond (.t 34) .skip (.exit 2)))
 (.seq (.block 3 (oQ [oA 37 1 1,oD 38 37,oM 39 5,oW 40 (.indexAddr 7 (.t 38) (.t 39)),oL 41 7 40,oW 6 (.alloc 113 7 (.agg [.int .i64 0,.int .i64 0,.int .i64 0,.int .i64 0,.int .i64 0,.nsl,.nsl])),oS 7 6 41]
 (oQ [oA 42 2 6,oD 43 42,oW 44 (.call (oF 10) [.t 43,oI 0,oI 2]),oW 45 (.build [.int .i64 0,.int .i64 0] [(0,1,.t 44)]),oW 7 (.alloc 45 2 (.agg [.int .i64 0,.int .i64 0])),oS 2 7 45]
 (.seq (.draw [oRA 46 3 6,oRD 47 46,nK 48 (.call (oF 10) [.t 47,oI 0,oI 4]) .create 0,oRA 49 4 6,oRD 50 49,nK 51 (.call (oF 10) [.t 50,oI 0,oI 2]) .write 1,nK 52 (.build [.int .i64 0,.int .i64 0] [(0,1,.t 48),(1,1,.t 51)]) .read 2,nK 8 (.alloc 45 2 (.agg [.int .i64 0,.int .i64 0])) .create 0,⟨none,.store 2 (.t 8) (.t 52),none,.write,3,false⟩])
 (oQ [oL 53 6 3,oA 54 1 6,oD 55 54,oW 56 (.call (oF 43) [.t 53,.t 55]),oM 9 56]
 (.seq (.draw [oRA 57 0 6,oRD 58 57,nK 59 (.call (oF 10) [.t 58,oI 1,oI 7]) .create 0,oRL 60 2 7,oRL 61 2 8,oRA 62 5 6,oRL 63 2 62,nK 64 (.call (oF 26) [.t 63]) .create 0,nK 65 (.build [.int .i64 0,.int .i64 0,.int .i64 0,.int .i64 0,.int .i64 0,.nsl,.nsl] [(0,1,.t 59),(1,2,.t 60),(3,2,.t 61),(5,1,.t 64)]) .read 2,nK 10 (.alloc 49 7 (.agg [.int .i64 0,.int .i64 0,.int .i64 0,.int .i64 0,.int .i64 0,.nsl,.nsl])) .create 0,⟨none,.store 7 (.t 10) (.t 65),none,.write,3,false⟩])
 (.block 4 (oQ [oA 75 0 10,oD 76 75,oW 77 (.arith .eql (.t 76) (oI 6)),oM 74 77]
 (.cond (.t 74) (.region [oL 79 6 3,oL 80 2 8,oA 81 5 10,oD 82 81,oW 83 (.call (oF 44) [.t 79,.t 80,.t 82]),oM 78 83,oX 84 78 0,oX 85 78 1,oS 6 3 84]) (oQ [oA 87 0 10,oD 88 87,oW 89 (.arith .eql (.t 88) (oI 7)),oM 86 89]
 (.cond (.t 86) (.region [oL 91 6 3,oL 92 2 8,oW 93 (.call (oF 45) [.t 91,.t 92]),oM 90 93,oX 94 90 0,oX 95 90 1,oS 6 3 94]) (.seq (oQ [oA 97 0 10,oD 98 97,oW 99 (.arith .eql (.t 98) (oI 3)),oM 100 99,gM 101 9 100 true,gW 102 (.arith .eql (.t 101) (oI (-1))) 100 true,oW 103 (.pick (.t 100) (.t 102) (oB false)),oM 96 103]
 (.cond (.t 96) .skip (oQ [oA 104 0 10,oD 105 104,oW 106 (.arith .eql (.t 105) (oI 4)),oM 107 106,gM 108 9 107 true,gW 109 (.arith .eql (.t 108) (oI (-1))) 107 true,oW 110 (.pick (.t 107) (.t 109) (oB false)),oM 96 110]
 (.cond (.t 96) .skip (.region [oA 111 0 10,oD 112 111,oW 113 (.arith .eql (.t 112) (oI 5)),oM 96 113])))))
 (.cond (.t 96) (.region [oL 115 6 3,oM 116 9,oL 117 2 7,oA 118 5 10,oD 119 118,oW 120 (.call (oF 46) [.t 115,.t 116,.t 117,.t 119]),oM 114 120,oX 121 114 0,oX 122 114 1,oS 6 3 121]) (.region [oL 67 6 3,oM 68 9,oL 69 7 10,oW 70 (.call (oF 47) [.t 67,.t 68,.t 69]),oM 66 70,oX 71 66 0,oX 72 66 1,oX 73 66 2,oS 6 3 71]))))))))))))))
 tZ))
def B0:aM :=
 (oQ [oL 123 6 3,oS 6 2 123]
 .ret)
def UB:aM :=
 (.seq (oQ [oW 5 (.move (oI 0))]
 (.block 2 (.loop Ty)))
 B0)
def t9:aS:={ntmps:=124,results:=[(.cell 2 (some 6))],mode:=.pure,body :=
 (oQ [oW 1 (.box 24 2 (.t 0)),oW 2 (.alloc 37 6 (.agg [.int .i64 0,.nsl,.nsl,.nsl,.nsl,.nsl]))]
 (oQ [oW 11 (.build [.int .i64 0,.nsl,.nsl,.nsl,.nsl,.nsl] [(0,1,oI 0)]),oW 3 (.alloc 37 6 (.agg [.int .i64 0,.nsl,.nsl,.nsl,.nsl,.nsl])),oS 6 3 11]
 (.seq (oQ [oA 12 0 1,oD 13 12,oW 14 (.call (oF 10) [.t 13,oI 1,oI 4]),oW 15 (.move (oI 0))]
 (.block 0 (.loop OR)))
 UB)))}
theorem c9:aH Tryz.prog Tryz.f9 .pure=some t9:=by kernel_rfl
def t10:aS:={ntmps:=24,results:=[.t 6],mode:=.pure,body :=
 (oQ [oW 6 (.move (oI 0))]
 (oQ [oM 7 0,oM 8 2,oM 9 1,oW 10 (.arith .sub (.t 8) (.t 9)),oW 11 (.arith .add (.t 10) (oI 1)),oW 12 (.arith .rem (.t 7) (.t 11)),oM 0 12]
 (.seq (oQ [oM 13 0,oW 14 (.arith .lss (.t 13) (oI 0))]
 (.cond (.t 14) (.region [oM 15 0,oM 16 2,oW 17 (.arith .add (.t 15) (.t 16)),oM 18 1,oW 19 (.arith .sub (.t 17) (.t 18)),oW 20 (.arith .add (.t 19) (oI 1)),oM 0 20]) .skip))
 (oQ [oM 21 1,oM 22 0,oW 23 (.arith .add (.t 21) (.t 22)),oM 6 23]
 .ret))))}
theorem c10:aH Tryz.prog Tryz.f10 .pure=some t10:=by kernel_rfl
def t15:aS:={ntmps:=8,results:=[.t 2],mode:=.pure,body :=
 (oQ [oW 2 (.move (oI 0))]
 (oQ [oW 3 (.alloc 57 1 (.int .i64 0))]
 (.seq (oQ [oM 4 0,oW 5 (.makeIface 137 (.t 3)),oW 6 (.call (oF 62) [.t 4,.t 5])]
 (.cond (.t 6) (oQ [oD 7 3,oM 2 7]
 .ret) .skip))
 (oQ [oW 2 (.move (oI 0))]
 .ret))))}
theorem c15:aH Tryz.prog Tryz.f15 .pure=some t15:=by kernel_rfl
def ZO:aM :=
 (.seq (oQ [oM 11 5,oM 12 0,oW 13 (.len 1 (.t 12)),oW 14 (.arith .lss (.t 11) (.t 13))]
 (.cond (.t 14) .skip (.exit 0)))
 (.seq (.block 1 (.seq (.draw [oRM 17 0,oRM 18 5,oR 19 (.indexAddr 1 (.t 17) (.t 18)),oRD 20 19,oRM 21 1,oRM 22 5,oR 23 (.indexAddr 1 (.t 21) (.t 22)),oRD 24 23,oR 25 (.arith .neq (.t 20) (.t 24))])
 (.cond (.t 25) (oQ [oW 4 (.move (oB false))]
 .ret) .skip)))
 (.region [oM 15 5,oW 16 (.arith .add (.t 15) (oI 1)),oM 5 16])))
def ZP:aM :=
 (oQ [oW 4 (.move (oB true))]
 .ret)
def t16:aS:={ntmps:=26,results:=[.t 4],mode:=.pure,body :=
 (oQ [oW 4 (.move (oB false))]
 (.seq (oQ [oM 6 0,oW 7 (.len 1 (.t 6)),oM 8 1,oW 9 (.len 1 (.t 8)),oW 10 (.arith .neq (.t 7) (.t 9))]
 (.cond (.t 10) (oQ [oW 4 (.move (oB false))]
 .ret) .skip))
 (.seq (oQ [oW 5 (.move (oI 0))]
 (.block 0 (.loop ZO)))
 ZP)))}
theorem c16:aH Tryz.prog Tryz.f16 .pure=some t16:=by kernel_rfl
def T4:aM :=
 (oQ [oW 10 (.arith .lss (.t 9) (.t 8))]
 (.seq (.cond (.t 10) .skip (.exit 0))
 (.seq (.block 1 (oQ [oW 11 (.indexAddr 1 (.t 7) (.t 9)),oD 12 11,oM 5 12]
 (.region [oM 13 3,oM 14 5,oW 15 (.nilCheck (.t 14)),oA 16 0 15,oD 17 16,oW 18 (.buildSlice 9 1 (.str []) 1 [(0,.t 17)]),oW 19 (.append 9 1 16 (.t 13) (.t 18)),oM 3 19])))
 (.region [oW 20 (.arith .add (.t 9) (oI 1)),oM 9 20]))))
def T5:aM :=
 (oQ [oM 21 3,oM 2 21]
 .ret)
def t17:aS:={ntmps:=22,results:=[.t 2],mode:=.pure,body :=
 (oQ [oW 2 (.move (.c .nsl))]
 (oQ [oW 3 (.move (.c .nsl))]
 (.seq (oQ [oM 6 0,oW 7 (.call (oF 63) [.t 6]),oW 8 (.len 1 (.t 7)),oW 9 (.move (oI 0))]
 (.block 0 (.loop T4)))
 T5)))}
theorem c17:aH Tryz.prog Tryz.f17 .pure=some t17:=by kernel_rfl
def t18:aS:={ntmps:=11,results:=[.t 2],mode:=.pure,body :=
 (oQ [oW 2 (.move (oI 0))]
 (oQ [oW 3 (.alloc 140 1 .nilp)]
 (.seq (oQ [oM 4 0,oW 5 (.makeIface 143 (.t 3)),oW 6 (.call (oF 62) [.t 4,.t 5])]
 (.cond (.t 6) (oQ [oD 7 3,oW 8 (.nilCheck (.t 7)),oA 9 1 8,oD 10 9,oM 2 10]
 .ret) .skip))
 (oQ [oW 2 (.move (oI (-1)))]
 .ret))))}
theorem c18:aH Tryz.prog Tryz.f18 .pure=some t18:=by kernel_rfl
def t20:aS:={ntmps:=15,results:=[.t 2],mode:=.full,body :=
 (oQ [oW 1 (.box 37 6 (.t 0)),oW 2 (.move (.c .nili))]
 (.seq (oQ [oL 3 6 1,oW 4 (.call (oF 66) [.t 3]),oW 5 (.un .not (.t 4)),oM 6 5,gL 7 6 1 6 false,gW 8 (.call (oF 67) [.t 7]) 6 false,gW 9 (.un .not (.t 8)) 6 false,oW 10 (.pick (.t 6) (oB true) (.t 9))]
 (.cond (.t 10) (oQ [oA 11 0 1,oD 12 11,oW 13 (.makeIface 57 (oI 4)),oW 14 (.call (oF 49) [(.c (.str [98,114,111,107,101,114])),.t 12,.t 13]),oM 2 14]
 .ret) .skip))
 (oQ [oW 2 (.move (.c .nili))]
 .ret)))}
theorem c20:aH Tryz.prog Tryz.f20 .full=some t20:=by kernel_rfl
def t21:aS:={ntmps:=29,results:=[(.cell 2 (some 6))],mode:=.full,body :=
 (oQ [oW 1 (.box 37 6 (.t 0)),oW 2 (.alloc 37 6 (.agg [.int .i64 0,.nsl,.nsl,.nsl,.nsl,.nsl]))]
 (oQ [oW 3 (.buildSlice 3 1 (.int .i64 0) 0 []),oA 4 1 1,oD 5 4,oW 6 (.append 3 1 8 (.t 3) (.t 5)),oA 7 1 1,oS 1 7 6]
 (oQ [oW 8 (.buildSlice 68 4 (.agg [.int .i64 0,.int .i64 0,.nsl,.int .i64 0]) 0 []),oA 9 2 1,oD 10 9,oW 11 (.append 68 4 48 (.t 8) (.t 10)),oA 12 2 1,oS 1 12 11]
 (oQ [oW 13 (.buildSlice 45 2 (.agg [.int .i64 0,.int .i64 0]) 0 []),oA 14 3 1,oD 15 14,oW 16 (.append 45 2 16 (.t 13) (.t 15)),oA 17 3 1,oS 1 17 16]
 (oQ [oW 18 (.buildSlice 70 7 (.agg [.int .i64 0,.int .i64 0,.int .i64 0,.int .i64 0,.nsl,.int .i64 0,.bool false]) 0 []),oA 19 4 1,oD 20 19,oW 21 (.append 70 7 72 (.t 18) (.t 20)),oA 22 4 1,oS 1 22 21]
 (oQ [oW 23 (.buildSlice 134 3 (.agg [.int .i64 0,.int .i64 0,.nsl]) 0 []),oA 24 5 1,oD 25 24,oW 26 (.append 134 3 40 (.t 23) (.t 25)),oA 27 5 1,oS 1 27 26]
 (oQ [oL 28 6 1,oS 6 2 28]
 .ret)))))))}
theorem c21:aH Tryz.prog Tryz.f21 .full=some t21:=by kernel_rfl
def t22:aS:={ntmps:=38,results:=[.t 0],mode:=.pure,body :=
 (oQ [oW 0 (.move (oB false))]
 (oQ [oW 6 (.build [.int .i64 0,.nsl] [(0,1,oI 1)]),oW 7 (.call (oF 68) [.t 6]),oM 5 7,oX 8 5 0,oX 9 5 1,oM 1 8,oM 2 9]
 (oQ [oW 10 (.call (oF 69) []),oM 3 10]
 (.seq (oQ [oM 11 1,oW 12 (.eqn 0 false (.t 11) (.c .nilp)),oM 13 12,gM 14 3 13 false,gW 15 (.eqn 0 false (.t 14) (.c .nilp)) 13 false,oW 16 (.pick (.t 13) (oB true) (.t 15)),oM 17 16,gM 18 2 17 false,gW 19 (.eqn 4 true (.t 18) (.c .nili)) 17 false,oW 20 (.pick (.t 17) (oB true) (.t 19))]
 (.cond (.t 20) (oQ [oW 0 (.move (oB false))]
 .ret) .skip))
 (oQ [oW 21 (.buildSlice 3 1 (.int .i64 0) 2 [(0,oI 2),(1,oI 1)]),oW 22 (.build [.int .i64 0,.nsl,.nsl,.nsl,.nsl,.nsl] [(0,1,oI 3),(1,1,.t 21)]),oW 23 (.call (oF 20) [.t 22]),oM 4 23]
 (oQ [oM 24 1,oM 25 3,oW 26 (.call (oF 70) [.t 24,.t 25]),oW 27 (.eqn 4 false (.t 26) (.c .nili)),oM 28 27,gM 29 4 28 true,gW 30 (.call (oF 15) [.t 29]) 28 true,gW 31 (.arith .eql (.t 30) (oI 4)) 28 true,oW 32 (.pick (.t 28) (.t 31) (oB false)),oM 33 32,gM 34 4 33 true,gW 35 (.call (oF 18) [.t 34]) 33 true,gW 36 (.arith .eql (.t 35) (oI 3)) 33 true,oW 37 (.pick (.t 33) (.t 36) (oB false)),oM 0 37]
 .ret))))))}
theorem c22:aH Tryz.prog Tryz.f22 .pure=some t22:=by kernel_rfl
def ZG:aM :=
 (oQ [oW 22 (.arith .lss (.t 21) (.t 20))]
 (.seq (.cond (.t 22) .skip (.exit 0))
 (.seq (.block 1 (oQ [oM 23 21,oM 6 23]
 (.draw [oRM 25 5,oR 26 (.nilCheck (.t 25)),oRA 27 2 26,oRD 28 27,oRL 30 2 1,oRM 31 6,nK 32 (.call (oF 76) [.t 30,.t 31]) .create 0,oRM 29 6,nK 33 (.call (oF 64) [.t 29,.t 32]) .create 0,nK 34 (.buildSlice 37 6 (.agg [.int .i64 0,.nsl,.nsl,.nsl,.nsl,.nsl]) 1 [(0,.t 33)]) .create 0,nK 35 (.append 37 6 128 (.t 28) (.t 34)) .write 3,oRM 24 5,nK 36 (.nilCheck (.t 24)) .read 4,nK 37 (.fieldAddr 2 (.t 36)) .read 4,⟨none,.store 1 (.t 37) (.t 35),none,.write,4,false⟩])))
 (.region [oW 38 (.arith .add (.t 21) (oI 1)),oM 21 38]))))
def ZH:aM :=
 (oQ [oM 39 5,oM 2 39,oW 3 (.move (.c .nili))]
 .ret)
def t24:aS:={ntmps:=40,results:=[.t 2,.t 3],mode:=.full,body :=
 (oQ [oW 1 (.box 76 2 (.t 0)),oW 2 (.move (.c .nilp)),oW 3 (.move (.c .nili))]
 (.seq (oQ [oL 7 2 1,oW 8 (.call (oF 73) [.t 7]),oM 4 8]
 (oQ [oM 9 4,oW 10 (.eqn 4 true (.t 9) (.c .nili))]
 (.cond (.t 10) (oQ [oM 11 4,oW 12 (.call (oF 49) [(.c (.str [110,101,116])),(oI (-1)),.t 11]),oW 2 (.move (.c .nilp)),oM 3 12]
 .ret) .skip)))
 (.seq (.draw [oRL 13 2 1,nK 14 (.call (oF 74) [.t 13]) .create 0,oRL 15 2 1,nK 16 (.call (oF 75) [.t 15]) .write 1,nK 17 (.build [.int .i64 0,.nsl,.nsl,.nilp,.nsl] [(0,2,.t 14),(3,1,.t 16)]) .read 2,nK 18 (.box 162 5 (.t 17)) .write 2,nK 5 (.move (.t 18)) .read 3])
 (.seq (oQ [oA 19 0 1,oD 20 19,oW 21 (.move (oI 0))]
 (.block 0 (.loop ZG)))
 ZH))))}
theorem c24:aH Tryz.prog Tryz.f24 .full=some t24:=by kernel_rfl
def T3:aM :=
 (oQ [oW 9 (.arith .lss (.t 8) (.t 7))]
 (.seq (.cond (.t 9) .skip (.exit 0))
 (.seq (.block 1 (oQ [oM 10 8,oW 11 (.indexAddr 1 (.t 6) (.t 8)),oD 12 11,oM 4 10,oM 5 12]
 (oQ [oM 13 4,oA 14 0 1,oD 15 14,oW 16 (.len 1 (.t 15)),oW 17 (.arith .lss (.t 13) (.t 16)),oM 18 17,gA 19 0 1 18 true,gD 20 19 18 true,gM 21 4 18 true,gW 22 (.indexAddr 1 (.t 20) (.t 21)) 18 true,gD 23 22 18 true,gW 24 (.arith .and (.t 23) (oI 1)) 18 true,gW 25 (.arith .eql (.t 24) (oI 1)) 18 true,oW 26 (.pick (.t 18) (.t 25) (oB false)),oM 27 26,gM 28 3 27 true,gW 29 (.len 1 (.t 28)) 27 true,gW 30 (.arith .lss (.t 29) (oI 5)) 27 true,oW 31 (.pick (.t 27) (.t 30) (oB false))]
 (.cond (.t 31) (.region [oM 32 3,oM 33 5,oA 34 1 1,oD 35 34,oM 36 4,oW 37 (.call (oF 72) [.t 35,.t 36]),oW 38 (.call (oF 81) [.t 33,.t 37]),oW 39 (.buildSlice 94 5 (.agg [.str [],.int .i64 0,.int .i64 0,.int .i64 0,.str []]) 1 [(0,.t 38)]),oW 40 (.append 94 5 56 (.t 32) (.t 39)),oM 3 40]) .skip))))
 (.region [oW 41 (.arith .add (.t 8) (oI 1)),oM 8 41]))))
def HN:aM :=
 (oQ [oM 42 3,oM 2 42]
 .ret)
def t26:aS:={ntmps:=43,results:=[.t 2],mode:=.pure,body :=
 (oQ [oW 1 (.box 27 2 (.t 0)),oW 2 (.move (.c .nsl))]
 (oQ [oW 3 (.move (.c .nsl))]
 (.seq (oQ [oW 6 (.call (oF 80) []),oW 7 (.len 1 (.t 6)),oW 8 (.move (oI 0))]
 (.block 0 (.loop T3)))
 HN)))}
theorem c26:aH Tryz.prog Tryz.f26 .pure=some t26:=by kernel_rfl
def t27:aS:={ntmps:=8,results:=[.t 2],mode:=.full,body :=
 (oQ [oW 2 (.move (.c .nsl))]
 (oQ [oM 3 0,oW 4 (.nilCheck (.t 3)),oA 5 3 4,oD 6 5,oW 7 (.call (oF 82) [.t 6]),oM 2 7]
 .ret))}
theorem c27:aH Tryz.prog Tryz.f27 .full=some t27:=by kernel_rfl
def t30:aS:={ntmps:=22,results:=[(.cell 4 (some 4)),.t 5],mode:=.pure,body :=
 (oQ [oW 2 (.box 37 6 (.t 0)),oW 3 (.box 45 2 (.t 1)),oW 4 (.alloc 68 4 (.agg [.int .i64 0,.int .i64 0,.nsl,.int .i64 0])),oW 5 (.move (oB false))]
 (oQ [oL 9 6 2,oL 10 2 3,oW 11 (.call (oF 86) [.t 9,.t 10]),oM 8 11,oX 12 8 0,oX 13 8 1,oM 6 12,oM 7 13]
 (.seq (oQ [oM 14 7,oW 15 (.un .not (.t 14))]
 (.cond (.t 15) (oQ [oW 16 (.build [.int .i64 0,.int .i64 0,.nsl,.int .i64 0] []),oS 4 4 16,oW 5 (.move (oB false))]
 .ret) .skip))
 (oQ [oA 17 2 2,oD 18 17,oM 19 6,oW 20 (.indexAddr 4 (.t 18) (.t 19)),oL 21 4 20,oS 4 4 21,oW 5 (.move (oB true))]
 .ret))))}
theorem c30:aH Tryz.prog Tryz.f30 .pure=some t30:=by kernel_rfl
def t31:aS:={ntmps:=39,results:=[(.cell 4 (some 6))],mode:=.full,body :=
 (oQ [oW 4 (.alloc 37 6 (.agg [.int .i64 0,.nsl,.nsl,.nsl,.nsl,.nsl]))]
 (.seq (oQ [oM 6 0,oM 7 1,oW 8 (.call (oF 87) [.t 6,.t 7]),oW 9 (.un .not (.t 8))]
 (.cond (.t 9) (oQ [oW 10 (.build [.int .i64 0,.nsl,.nsl,.nsl,.nsl,.nsl] []),oS 6 4 10]
 .ret) .skip))
 (oQ [oM 11 0,oW 12 (.nilCheck (.t 11)),oA 13 2 12,oD 14 13,oM 15 1,oW 16 (.indexAddr 6 (.t 14) (.t 15)),oL 17 6 16,oW 5 (.alloc 37 6 (.agg [.int .i64 0,.nsl,.nsl,.nsl,.nsl,.nsl])),oS 6 5 17]
 (.seq (.draw [oRA 18 1 5,oRD 19 18,nK 20 (.call (oF 88) [.t 19]) .create 0,oRA 21 2 5,oRD 22 21,nK 23 (.call (oF 89) [.t 22]) .create 0,oRA 24 3 5,oRD 25 24,nK 26 (.call (oF 90) [.t 25]) .create 0,oRA 27 4 5,oRD 28 27,nK 29 (.call (oF 91) [.t 28]) .create 0,oRA 30 5 5,oRD 31 30,nK 32 (.call (oF 92) [.t 31]) .write 4,nK 33 (.fieldAddr 1 (.t 5)) .read 1,⟨none,.store 1 (.t 33) (.t 20),none,.write,5,false⟩,nK 34 (.fieldAddr 2 (.t 5)) .read 6,⟨none,.store 1 (.t 34) (.t 23),none,.write,6,false⟩,nK 35 (.fieldAddr 3 (.t 5)) .read 7,⟨none,.store 1 (.t 35) (.t 26),none,.write,7,false⟩,nK 36 (.fieldAddr 4 (.t 5)) .read 8,⟨none,.store 1 (.t 36) (.t 29),none,.write,8,false⟩,nK 37 (.fieldAddr 5 (.t 5)) .read 9,⟨none,.store 1 (.t 37) (.t 32),none,.write,9,false⟩])
 (oQ [oL 38 6 5,oS 6 4 38]
 .ret)))))}
theorem c31:aH Tryz.prog Tryz.f31 .full=some t31:=by kernel_rfl
def t39:aS:={ntmps:=25,results:=[.t 2],mode:=.full,body :=
 (oQ [oW 2 (.move (.c .nilp))]
 (.seq (.draw [oRM 3 0,oR 4 (.nilCheck (.t 3)),oRA 5 0 4,oRL 6 2 5,nK 7 (.call (oF 74) [.t 6]) .create 0,oRM 8 0,oR 9 (.nilCheck (.t 8)),oRA 10 2 9,oRD 11 10,nK 12 (.call (oF 99) [.t 11]) .create 0,oRM 13 0,oR 14 (.nilCheck (.t 13)),oRA 15 3 14,oRD 16 15,nK 17 (.call (oF 100) [.t 16]) .create 0,oRM 18 0,oR 19 (.nilCheck (.t 18)),oRA 20 4 19,oRD 21 20,nK 22 (.call (oF 93) [.t 21]) .write 3,nK 23 (.build [.int .i64 0,.nsl,.nsl,.nilp,.nsl] [(0,2,.t 7),(2,1,.t 12),(3,1,.t 17),(4,1,.t 22)]) .read 4,nK 24 (.box 162 5 (.t 23)) .write 4,nK 2 (.move (.t 24)) .read 5])
 .ret))}
theorem c39:aH Tryz.prog Tryz.f39 .full=some t39:=by kernel_rfl
def ZD:aM :=
 (oQ [oW 10 (.arith .lss (.t 9) (.t 8))]
 (.seq (.cond (.t 10) .skip (.exit 0))
 (.seq (.block 1 (oQ [oW 11 (.indexAddr 2 (.t 7) (.t 9)),oL 12 2 11,oW 5 (.alloc 86 2 (.agg [.int .i64 0,.int .i64 0])),oS 2 5 12]
 (oQ [oL 13 2 1,oL 14 2 5,oW 15 (.call (oF 101) [.t 13,.t 14])]
 (.cond (.t 15) (.region [oM 16 3,oL 17 2 5,oW 18 (.indexArr 2 1 (.t 5) (oI 1)),oD 19 18,oW 20 (.indexArr 2 1 (.t 5) (oI 0)),oD 21 20,oW 22 (.build [.int .i64 0,.int .i64 0] [(0,1,.t 19),(1,1,.t 21)]),oW 23 (.buildSlice 86 2 (.agg [.int .i64 0,.int .i64 0]) 2 [(0,.t 17),(1,.t 22)]),oW 24 (.append 86 2 16 (.t 16) (.t 23)),oM 3 24]) .skip))))
 (.region [oW 25 (.arith .add (.t 9) (oI 1)),oM 9 25]))))
def ZE:aM :=
 (oQ [oM 26 3,oW 27 (.call (oF 102) [.t 26,oF 103])]
 (oQ [oM 28 3,oW 29 (.call (oF 106) [.t 28]),oM 2 29]
 .ret))
def t40:aS:={ntmps:=30,results:=[.t 2],mode:=.pure,body :=
 (oQ [oW 1 (.box 76 2 (.t 0)),oW 2 (.move (.c .nsl))]
 (oQ [oW 3 (.move (.c .nsl))]
 (.seq (oQ [oA 6 1 1,oD 7 6,oW 8 (.len 1 (.t 7)),oW 9 (.move (oI 0))]
 (.block 0 (.loop ZD)))
 ZE)))}
theorem c40:aH Tryz.prog Tryz.f40 .pure=some t40:=by kernel_rfl
def t42:aS:={ntmps:=8,results:=[(.cell 2 (some 2))],mode:=.full,body :=
 (oQ [oW 2 (.alloc 76 2 (.agg [.int .i64 0,.nsl]))]
 (oQ [oM 3 0,oW 4 (.nilCheck (.t 3)),oA 5 0 4,oL 6 2 5,oW 7 (.call (oF 74) [.t 6]),oS 2 2 7]
 .ret))}
theorem c42:aH Tryz.prog Tryz.f42 .full=some t42:=by kernel_rfl
def t43:aS:={ntmps:=21,results:=[.t 4],mode:=.pure,body :=
 (oQ [oW 2 (.box 37 6 (.t 0)),oW 4 (.move (oI 0))]
 (.seq (oQ [oM 6 1,oA 7 1 2,oD 8 7,oW 9 (.len 1 (.t 8)),oW 10 (.call (oF 10) [.t 6,oI 0,.t 9]),oM 5 10]
 (oQ [oM 11 5,oA 12 1 2,oD 13 12,oW 14 (.len 1 (.t 13)),oW 15 (.arith .lss (.t 11) (.t 14))]
 (.cond (.t 15) (oQ [oA 16 1 2,oD 17 16,oM 18 5,oW 19 (.indexAddr 1 (.t 17) (.t 18)),oD 20 19,oM 4 20]
 .ret) .skip)))
 (oQ [oW 4 (.move (oI (-1)))]
 .ret)))}
theorem c43:aH Tryz.prog Tryz.f43 .pure=some t43:=by kernel_rfl
def T2:aM :=
 (.seq (.seq (.draw [oRA 15 5 3,oRD 16 15,oRM 14 8,oR 17 (.len 1 (.t 16)),oR 18 (.arith .lss (.t 14) (.t 17)),oRM 19 18,rA 20 5 3 19 true,rD 21 20 19 true,rM 22 8 19 true,rW 23 (.indexAddr 3 (.t 21) (.t 22)) 19 true,rA 24 0 23 19 true,rL 25 2 24 19 true,rL 26 2 4 19 true,gW 27 (.call (oF 112) [.t 25,.t 26]) 19 true,nK 28 (.pick (.t 19) (.t 27) (oB false)) .read 1])
 (.cond (.t 28) .skip (.exit 0)))
 (.block 1 (.region [oM 29 8,oW 30 (.arith .add (.t 29) (oI 1)),oM 8 30])))
def Gt:aM :=
 (oQ [oW 68 (.arith .lss (.t 67) (.t 66))]
 (.seq (.cond (.t 68) .skip (.exit 2))
 (.seq (.block 3 (oQ [oW 69 (.indexAddr 4 (.t 65) (.t 67)),oL 70 4 69,oW 11 (.alloc 68 4 (.agg [.int .i64 0,.int .i64 0,.nsl,.int .i64 0])),oS 4 11 70]
 (.seq (oQ [oM 71 2,oA 72 2 11,oD 73 72,oW 74 (.call (oF 113) [.t 71,.t 73]),oW 75 (.un .not (.t 74))]
 (.cond (.t 75) (.exit 3) .skip))
 (oQ [oA 76 0 11,oL 77 2 76,oL 78 2 4,oM 79 2,oW 80 (.build [.int .i64 0,.int .i64 0,.int .i64 0,.int .i64 0,.nsl,.int .i64 0,.bool false] [(0,2,.t 77),(2,2,.t 78),(4,1,.t 79),(5,1,(oI (-1)))]),oW 12 (.alloc 70 7 (.agg [.int .i64 0,.int .i64 0,.int .i64 0,.int .i64 0,.nsl,.int .i64 0,.bool false])),oS 7 12 80]
 (oQ [oW 13 (.move (oB false))]
 (oQ [oL 82 6 3,oL 83 7 12,oW 84 (.call (oF 114) [.t 82,.t 83]),oM 81 84,oX 85 81 0,oX 86 81 1,oS 6 3 85,oM 13 86]
 (oQ [oM 87 13]
 (.cond (.t 87) (.draw [oRA 89 3 11,oRD 90 89,oRL 91 7 12,nK 92 (.call (oF 115) [.t 91]) .create 0,oRM 88 9,nK 93 (.build [.int .i64 0,.int .i64 0,.int .i64 0,.int .i64 0,.int .i64 0,.int .i64 0,.nsl,.nsl] [(0,1,.t 90),(1,7,.t 92)]) .read 1,nK 94 (.buildSlice 206 8 (.agg [.int .i64 0,.int .i64 0,.int .i64 0,.int .i64 0,.int .i64 0,.int .i64 0,.nsl,.nsl]) 1 [(0,.t 93)]) .create 0,nK 95 (.append 206 8 96 (.t 88) (.t 94)) .write 2,nK 9 (.move (.t 95)) .read 3]) .skip))))))))
 (.region [oW 96 (.arith .add (.t 67) (oI 1)),oM 67 96]))))
def Uc:aM :=
 (oQ [oL 97 6 3,oM 98 9,oS 6 6 97,oM 7 98]
 .ret)
def Mu:aM :=
 (.seq (.seq (.draw [oRA 32 5 3,oRD 33 32,oRM 31 8,oR 34 (.len 1 (.t 33)),oR 35 (.arith .lss (.t 31) (.t 34)),oRM 36 35,rA 37 5 3 36 true,rD 38 37 36 true,rM 39 8 36 true,rW 40 (.indexAddr 3 (.t 38) (.t 39)) 36 true,rA 41 0 40 36 true,rL 42 2 41 36 true,rL 43 2 4 36 true,rW 44 (.eqa false [1,1] (.t 42) (.t 43)) 36 true,oR 45 (.pick (.t 36) (.t 44) (oB false))])
 (.cond (.t 45) (oQ [oL 46 6 3,oS 6 6 46,oW 7 (.move (.c .nsl))]
 .ret) .skip))
 (.seq (.draw [oRA 48 5 3,oRD 49 48,oRM 50 8,oR 51 (.sliceSl 3 (.t 49) none (some (.t 50))),nK 47 (.buildSlice 134 3 (.agg [.int .i64 0,.int .i64 0,.nsl]) 0 []) .create 0,nK 52 (.append 134 3 40 (.t 47) (.t 51)) .create 0,oRL 53 2 4,oRM 54 2,oR 55 (.build [.int .i64 0,.int .i64 0,.nsl] [(0,2,.t 53),(2,1,.t 54)]),nK 56 (.buildSlice 134 3 (.agg [.int .i64 0,.int .i64 0,.nsl]) 1 [(0,.t 55)]) .create 0,nK 57 (.append 134 3 40 (.t 52) (.t 56)) .create 0,oRA 58 5 3,oRD 59 58,oRM 60 8,oR 61 (.sliceSl 3 (.t 59) (some (.t 60)) none),nK 62 (.append 134 3 40 (.t 57) (.t 61)) .write 4,nK 63 (.fieldAddr 5 (.t 3)) .read 5,⟨none,.store 1 (.t 63) (.t 62),none,.write,5,false⟩])
 (oQ [oW 9 (.move (.c .nsl))]
 (.seq (oQ [oA 64 2 3,oD 65 64,oW 66 (.len 1 (.t 65)),oW 67 (.move (oI 0))]
 (.block 2 (.loop Gt)))
 Uc))))
def t44:aS:={ntmps:=99,results:=[(.cell 6 (some 6)),.t 7],mode:=.frz,body :=
 (oQ [oW 3 (.box 37 6 (.t 0)),oW 4 (.box 45 2 (.t 1)),oW 6 (.alloc 37 6 (.agg [.int .i64 0,.nsl,.nsl,.nsl,.nsl,.nsl])),oW 7 (.move (.c .nsl))]
 (oQ [oW 8 (.move (oI 0))]
 (.seq (.block 0 (.loop T2))
 Mu)))}
theorem c44:aH Tryz.prog Tryz.f44 .frz=some t44:=by kernel_rfl
def T1:aM :=
 (oQ [oW 18 (.arith .lss (.t 17) (.t 16))]
 (.seq (.cond (.t 18) .skip (.exit 0))
 (.seq (.block 1 (oQ [oW 19 (.indexAddr 3 (.t 15) (.t 17)),oL 20 3 19,oW 8 (.alloc 134 3 (.agg [.int .i64 0,.int .i64 0,.nsl])),oS 3 8 20]
 (oQ [oA 21 0 8,oL 22 2 21,oL 23 2 3,oW 24 (.eqa true [1,1] (.t 22) (.t 23))]
 (.cond (.t 24) (.region [oM 25 6,oL 26 3 8,oW 27 (.buildSlice 134 3 (.agg [.int .i64 0,.int .i64 0,.nsl]) 1 [(0,.t 26)]),oW 28 (.append 134 3 40 (.t 25) (.t 27)),oM 6 28]) .skip))))
 (.region [oW 29 (.arith .add (.t 17) (oI 1)),oM 17 29]))))
def Gs:aM :=
 (oQ [oW 43 (.arith .lss (.t 42) (.t 41))]
 (.seq (.cond (.t 43) .skip (.exit 2))
 (.seq (.block 3 (oQ [oW 44 (.indexAddr 4 (.t 40) (.t 42)),oL 45 4 44,oW 11 (.alloc 68 4 (.agg [.int .i64 0,.int .i64 0,.nsl,.int .i64 0])),oS 4 11 45]
 (oQ [oL 47 6 2,oA 48 0 11,oL 49 2 48,oL 50 2 3,oW 51 (.call (oF 116) [.t 47,.t 49,.t 50,(oI (-1))]),oM 46 51,oX 52 46 0,oX 53 46 1,oW 12 (.alloc 37 6 (.agg [.int .i64 0,.nsl,.nsl,.nsl,.nsl,.nsl])),oS 6 12 52,oM 13 53]
 (.draw [oRL 54 6 12,nK 55 (.buildSlice 206 8 (.agg [.int .i64 0,.int .i64 0,.int .i64 0,.int .i64 0,.int .i64 0,.int .i64 0,.nsl,.nsl]) 0 []) .create 0,oRM 56 9,nK 57 (.append 206 8 96 (.t 55) (.t 56)) .create 0,oRM 58 13,nK 59 (.append 206 8 96 (.t 57) (.t 58)) .create 0,⟨none,.store 6 (.t 2) (.t 54),none,.write,3,false⟩,nK 9 (.move (.t 59)) .read 4]))))
 (.region [oW 60 (.arith .add (.t 42) (oI 1)),oM 42 60]))))
def Ub:aM :=
 (oQ [oL 61 6 2,oM 62 9,oS 6 4 61,oM 5 62]
 .ret)
def Ua:aM :=
 (.seq (oQ [oM 30 6,oW 31 (.len 1 (.t 30)),oA 32 5 2,oD 33 32,oW 34 (.len 1 (.t 33)),oW 35 (.arith .eql (.t 31) (.t 34))]
 (.cond (.t 35) (oQ [oL 36 6 2,oS 6 4 36,oW 5 (.move (.c .nsl))]
 .ret) .skip))
 (oQ [oM 37 6,oA 38 5 2,oS 1 38 37]
 (oQ [oW 9 (.move (.c .nsl))]
 (.seq (oQ [oA 39 2 2,oD 40 39,oW 41 (.len 1 (.t 40)),oW 42 (.move (oI 0))]
 (.block 2 (.loop Gs)))
 Ub))))
def t45:aS:={ntmps:=63,results:=[(.cell 4 (some 6)),.t 5],mode:=.frz,body :=
 (oQ [oW 2 (.box 37 6 (.t 0)),oW 3 (.box 45 2 (.t 1)),oW 4 (.alloc 37 6 (.agg [.int .i64 0,.nsl,.nsl,.nsl,.nsl,.nsl])),oW 5 (.move (.c .nsl))]
 (oQ [oW 6 (.move (.c .nsl))]
 (.seq (oQ [oA 14 5 2,oD 15 14,oW 16 (.len 1 (.t 15)),oW 17 (.move (oI 0))]
 (.block 0 (.loop T1)))
 Ua)))}
theorem c45:aH Tryz.prog Tryz.f45 .frz=some t45:=by kernel_rfl
def T0:aM :=
 (oQ [oW 38 (.arith .lss (.t 37) (.t 36))]
 (.seq (.cond (.t 38) .skip (.exit 0))
 (.seq (.block 1 (oQ [oW 39 (.indexAddr 3 (.t 35) (.t 37)),oL 40 3 39,oW 13 (.alloc 134 3 (.agg [.int .i64 0,.int .i64 0,.nsl])),oS 3 13 40]
 (.seq (oQ [oA 41 2 13,oD 42 41,oM 43 3,oW 44 (.call (oF 113) [.t 42,.t 43]),oW 45 (.un .not (.t 44))]
 (.cond (.t 45) (.exit 1) .skip))
 (oQ [oL 46 2 6,oA 47 0 13,oL 48 2 47,oA 49 2 13,oD 50 49,oW 51 (.build [.int .i64 0,.int .i64 0,.int .i64 0,.int .i64 0,.nsl,.int .i64 0,.bool false] [(0,2,.t 46),(2,2,.t 48),(4,1,.t 50),(5,1,(oI (-1)))]),oW 14 (.alloc 70 7 (.agg [.int .i64 0,.int .i64 0,.int .i64 0,.int .i64 0,.nsl,.int .i64 0,.bool false])),oS 7 14 51]
 (oQ [oW 15 (.move (oB false))]
 (oQ [oL 53 6 4,oL 54 7 14,oW 55 (.call (oF 114) [.t 53,.t 54]),oM 52 55,oX 56 52 0,oX 57 52 1,oS 6 4 56,oM 15 57]
 (oQ [oM 58 15]
 (.cond (.t 58) (.region [oM 59 11,oM 60 1,oL 61 7 14,oW 62 (.call (oF 115) [.t 61]),oW 63 (.build [.int .i64 0,.int .i64 0,.int .i64 0,.int .i64 0,.int .i64 0,.int .i64 0,.nsl,.nsl] [(0,1,.t 60),(1,7,.t 62)]),oW 64 (.buildSlice 206 8 (.agg [.int .i64 0,.int .i64 0,.int .i64 0,.int .i64 0,.int .i64 0,.int .i64 0,.nsl,.nsl]) 1 [(0,.t 63)]),oW 65 (.append 206 8 96 (.t 59) (.t 64)),oM 11 65]) .skip))))))))
 (.region [oW 66 (.arith .add (.t 37) (oI 1)),oM 37 66]))))
def HM:aM :=
 (oQ [oL 67 6 4,oM 68 11,oS 6 8 67,oM 9 68]
 .ret)
def t46:aS:={ntmps:=69,results:=[(.cell 8 (some 6)),.t 9],mode:=.frz,body :=
 (oQ [oW 4 (.box 37 6 (.t 0)),oW 6 (.box 45 2 (.t 2)),oW 8 (.alloc 37 6 (.agg [.int .i64 0,.nsl,.nsl,.nsl,.nsl,.nsl])),oW 9 (.move (.c .nsl))]
 (oQ [oL 17 6 4,oL 18 2 6,oM 19 3,oM 20 1,oW 21 (.build [.int .i64 0,.int .i64 0,.nsl,.int .i64 0] [(0,2,.t 18),(2,1,.t 19),(3,1,.t 20)]),oW 22 (.call (oF 117) [.t 17,.t 21]),oM 16 22,oX 23 16 0,oX 24 16 1,oS 6 4 23,oM 10 24]
 (.seq (oQ [oM 25 10,oW 26 (.un .not (.t 25))]
 (.cond (.t 26) (oQ [oL 27 6 4,oS 6 8 27,oW 9 (.move (.c .nsl))]
 .ret) .skip))
 (oQ [oL 28 6 4,oM 29 1,oL 30 2 6,oM 31 3,oW 32 (.build [.int .i64 0,.int .i64 0,.int .i64 0,.int .i64 0,.int .i64 0,.nsl,.nsl] [(0,1,oI 1),(1,2,.t 30),(5,1,.t 31)]),oW 33 (.call (oF 118) [.t 28,.t 29,.t 32]),oM 11 33]
 (.seq (oQ [oA 34 5 4,oD 35 34,oW 36 (.len 1 (.t 35)),oW 37 (.move (oI 0))]
 (.block 0 (.loop T0)))
 HM)))))}
theorem c46:aH Tryz.prog Tryz.f46 .frz=some t46:=by kernel_rfl
def t47:aS:={ntmps:=65,results:=[(.cell 6 (some 6)),.t 7,.t 8],mode:=.frz,body :=
 (oQ [oW 3 (.box 37 6 (.t 0)),oW 5 (.box 49 7 (.t 2)),oW 6 (.alloc 37 6 (.agg [.int .i64 0,.nsl,.nsl,.nsl,.nsl,.nsl])),oW 7 (.move (.c .nsl)),oW 8 (.move (.c .nsl))]
 (oQ [oW 9 (.move (.c .nsl))]
 (oQ [oW 10 (.move (.c .nsl))]
 (.seq (oQ [oA 11 0 5,oD 12 11]
 (.block 0 (oQ [oW 14 (.arith .eql (.t 12) (oI 1)),oM 13 14]
 (.cond (.t 13) (.region [oL 16 6 3,oM 17 1,oA 18 1 5,oL 19 2 18,oA 20 5 5,oD 21 20,oW 22 (.call (oF 46) [.t 16,.t 17,.t 19,.t 21]),oM 15 22,oX 23 15 0,oX 24 15 1,oS 6 3 23,oM 9 24]) (oQ [oW 26 (.arith .eql (.t 12) (oI 2)),oM 25 26]
 (.cond (.t 25) (.region [oL 28 6 3,oM 29 1,oA 30 1 5,oL 31 2 30,oW 32 (.call (oF 119) [.t 28,.t 29,.t 31]),oM 27 32,oX 33 27 0,oX 34 27 1,oS 6 3 33,oM 9 34]) (oQ [oW 36 (.arith .eql (.t 12) (oI 3)),oM 35 36]
 (.cond (.t 35) (.region [oL 38 6 3,oM 39 1,oL 40 7 5,oW 41 (.call (oF 120) [.t 38,.t 39,.t 40]),oM 37 41,oX 42 37 0,oX 43 37 1,oS 6 3 42,oM 9 43]) (oQ [oW 45 (.arith .eql (.t 12) (oI 4)),oM 44 45]
 (.cond (.t 44) (.region [oL 47 6 3,oM 48 1,oL 49 7 5,oW 50 (.call (oF 121) [.t 47,.t 48,.t 49]),oM 46 50,oX 51 46 0,oX 52 46 1,oS 6 3 51,oM 9 52]) (oQ [oW 54 (.arith .eql (.t 12) (oI 5)),oM 53 54]
 (.cond (.t 53) (.region [oL 56 6 3,oM 57 1,oL 58 7 5,oW 59 (.call (oF 122) [.t 56,.t 57,.t 58]),oM 55 59,oX 60 55 0,oX 61 55 1,oM 9 60,oM 10 61]) .skip))))))))))))
 (oQ [oL 62 6 3,oM 63 9,oM 64 10,oS 6 6 62,oM 7 63,oM 8 64]
 .ret)))))}
theorem c47:aH Tryz.prog Tryz.f47 .frz=some t47:=by kernel_rfl
def t49:aS:={ntmps:=15,results:=[.t 6],mode:=.pure,body :=
 (oQ [oW 6 (.move (.c .nili))]
 (.seq (oQ [oM 7 2,oW 8 (.eqn 4 false (.t 7) (.c .nili))]
 (.cond (.t 8) (oQ [oW 6 (.move (.c .nili))]
 .ret) .skip))
 (oQ [oM 9 0,oM 10 1,oM 11 2,oW 12 (.build [.str [],.int .i64 0,.nili] [(0,1,.t 9),(1,1,.t 10),(2,1,.t 11)]),oW 13 (.box 142 3 (.t 12)),oW 14 (.makeIface 140 (.t 13)),oM 6 14]
 .ret)))}
theorem c49:aH Tryz.prog Tryz.f49 .pure=some t49:=by kernel_rfl
def S8:aM :=
 (.seq (oQ [oM 5 0,oW 6 (.makeIface 143 (.t 4)),oW 7 (.call (oF 62) [.t 5,.t 6])]
 (.cond (.t 7) .skip (.exit 0)))
 (.block 1 (oQ [oM 8 3,oD 9 4,oW 10 (.buildSlice 140 1 .nilp 1 [(0,.t 9)]),oW 11 (.append 140 1 8 (.t 8) (.t 10)),oM 3 11]
 (.region [oD 12 4,oW 13 (.nilCheck (.t 12)),oA 14 2 13,oD 15 14,oM 0 15]))))
def S9:aM :=
 (oQ [oM 16 3,oM 2 16]
 .ret)
def t63:aS:={ntmps:=17,results:=[.t 2],mode:=.full,body :=
 (oQ [oW 2 (.move (.c .nsl))]
 (oQ [oW 3 (.move (.c .nsl))]
 (oQ [oW 4 (.alloc 140 1 .nilp)]
 (.seq (.block 0 (.loop S8))
 S9))))}
theorem c63:aH Tryz.prog Tryz.f63 .full=some t63:=by kernel_rfl
def t64:aS:={ntmps:=14,results:=[(.cell 4 (some 6))],mode:=.pure,body :=
 (oQ [oW 4 (.alloc 37 6 (.agg [.int .i64 0,.nsl,.nsl,.nsl,.nsl,.nsl]))]
 (oQ [oM 6 1,oW 7 (.call (oF 88) [.t 6]),oM 5 7]
 (oQ [oM 8 5,oW 9 (.call (oF 142) [.t 8])]
 (oQ [oM 10 0,oM 11 5,oW 12 (.call (oF 143) [.t 11]),oW 13 (.build [.int .i64 0,.nsl,.nsl,.nsl,.nsl,.nsl] [(0,1,.t 10),(1,1,.t 12)]),oS 6 4 13]
 .ret))))}
theorem c64:aH Tryz.prog Tryz.f64 .pure=some t64:=by kernel_rfl
def t66:aS:={ntmps:=48,results:=[.t 2],mode:=.pure,body :=
 (oQ [oW 1 (.box 37 6 (.t 0)),oW 2 (.move (oB false))]
 (oQ [oA 4 1 1,oD 5 4,oW 6 (.call (oF 144) [.t 5,oF 145]),oM 7 6,gA 8 3 1 7 true,gD 9 8 7 true,gW 10 (.call (oF 146) [.t 9,oF 147]) 7 true,oW 11 (.pick (.t 7) (.t 10) (oB false)),oM 12 11,gA 13 2 1 12 true,gD 14 13 12 true,gW 15 (.call (oF 148) [.t 14,oF 149]) 12 true,oW 16 (.pick (.t 12) (.t 15) (oB false)),oM 17 16,gA 18 5 1 17 true,gD 19 18 17 true,gW 20 (.call (oF 150) [.t 19,oF 151]) 17 true,oW 21 (.pick (.t 17) (.t 20) (oB false)),oM 22 21,gA 23 4 1 22 true,gD 24 23 22 true,gW 25 (.call (oF 152) [.t 24,oF 153]) 22 true,oW 26 (.pick (.t 22) (.t 25) (oB false)),oM 3 26]
 (oQ [oM 27 3,oM 28 27,gA 29 2 1 28 true,gD 30 29 28 true,gW 31 (.makeFunc 156 [.t 1]) 28 true,gW 32 (.call (oF 155) [.t 30,.t 31]) 28 true,gW 33 (.un .not (.t 32)) 28 true,oW 34 (.pick (.t 28) (.t 33) (oB false)),oM 35 34,gA 36 4 1 35 true,gD 37 36 35 true,gW 38 (.makeFunc 160 [.t 1]) 35 true,gW 39 (.call (oF 159) [.t 37,.t 38]) 35 true,gW 40 (.un .not (.t 39)) 35 true,oW 41 (.pick (.t 35) (.t 40) (oB false)),oM 42 41,gA 43 5 1 42 true,gD 44 43 42 true,gW 45 (.call (oF 162) [.t 44,oF 163]) 42 true,gW 46 (.un .not (.t 45)) 42 true,oW 47 (.pick (.t 42) (.t 46) (oB false)),oM 2 47]
 .ret)))}
theorem c66:aH Tryz.prog Tryz.f66 .pure=some t66:=by kernel_rfl
def Tz:aM :=
 (oQ [oW 11 (.arith .lss (.t 10) (.t 9))]
 (.seq (.cond (.t 11) .skip (.exit 0))
 (.seq (.block 1 (oQ [oW 12 (.indexAddr 7 (.t 8) (.t 10)),oL 13 7 12,oW 4 (.alloc 70 7 (.agg [.int .i64 0,.int .i64 0,.int .i64 0,.int .i64 0,.nsl,.int .i64 0,.bool false])),oS 7 4 13]
 (oQ [oL 15 6 1,oA 16 0 4,oL 17 2 16,oW 18 (.call (oF 30) [.t 15,.t 17]),oM 14 18,oX 19 14 0,oX 20 14 1,oW 5 (.alloc 68 4 (.agg [.int .i64 0,.int .i64 0,.nsl,.int .i64 0])),oS 4 5 19,oM 6 20]
 (oQ [oA 21 6 4,oD 22 21,oW 23 (.un .not (.t 22)),oM 24 23,gA 25 3 5 24 true,gD 26 25 24 true,gW 27 (.arith .neq (.t 26) (oI (-1))) 24 true,oW 28 (.pick (.t 24) (.t 27) (oB false)),oM 29 28,gL 30 6 1 29 true,gA 31 0 4 29 true,gL 32 2 31 29 true,gA 33 4 4 29 true,gD 34 33 29 true,gW 35 (.call (oF 164) [.t 30,.t 32,.t 34]) 29 true,gW 36 (.un .not (.t 35)) 29 true,oW 37 (.pick (.t 29) (.t 36) (oB false))]
 (.cond (.t 37) (oQ [oW 2 (.move (oB false))]
 .ret) .skip)))))
 (.region [oW 38 (.arith .add (.t 10) (oI 1)),oM 10 38]))))
def S7:aM :=
 (oQ [oW 2 (.move (oB true))]
 .ret)
def t67:aS:={ntmps:=39,results:=[.t 2],mode:=.pure,body :=
 (oQ [oW 1 (.box 37 6 (.t 0)),oW 2 (.move (oB false))]
 (.seq (oQ [oA 7 4 1,oD 8 7,oW 9 (.len 1 (.t 8)),oW 10 (.move (oI 0))]
 (.block 0 (.loop Tz)))
 S7))}
theorem c67:aH Tryz.prog Tryz.f67 .pure=some t67:=by kernel_rfl
def t68:aS:={ntmps:=19,results:=[.t 2,.t 3],mode:=.full,body :=
 (oQ [oW 1 (.box 76 2 (.t 0)),oW 2 (.move (.c .nilp)),oW 3 (.move (.c .nili))]
 (oQ [oL 7 2 1,oW 8 (.call (oF 24) [.t 7]),oM 6 8,oX 9 6 0,oX 10 6 1,oM 4 9,oM 5 10]
 (.seq (oQ [oM 11 5,oW 12 (.eqn 4 true (.t 11) (.c .nili))]
 (.cond (.t 12) (oQ [oM 13 5,oW 14 (.call (oF 49) [(.c (.str [119,111,114,108,100])),(oI (-1)),.t 13]),oW 2 (.move (.c .nilp)),oM 3 14]
 .ret) .skip))
 (oQ [oM 15 4,oW 16 (.call (oF 165) []),oW 17 (.build [.nilp,.nsl,.nilp,.int .i64 0,.nili] [(0,1,.t 15),(2,1,.t 16)]),oW 18 (.box 257 5 (.t 17)),oM 2 18,oW 3 (.move (.c .nili))]
 .ret))))}
theorem c68:aH Tryz.prog Tryz.f68 .full=some t68:=by kernel_rfl
def t69:aS:={ntmps:=3,results:=[.t 0],mode:=.full,body :=
 (oQ [oW 0 (.move (.c .nilp))]
 (oQ [oW 1 (.build [.nsl,.nsl,.nsl,.int .i64 0,.int .i64 0,.int .i64 0] []),oW 2 (.box 261 6 (.t 1)),oM 0 2]
 .ret))}
theorem c69:aH Tryz.prog Tryz.f69 .full=some t69:=by kernel_rfl
def ZA:aM :=
 (oQ [oW 22 (.arith .lss (.t 21) (.t 20))]
 (.seq (.cond (.t 22) .skip (.exit 0))
 (.seq (.block 1 (oQ [oM 23 21,oM 6 23]
 (oQ [oM 24 5,oM 25 6,oW 26 (.call (oF 31) [.t 24,.t 25]),oM 27 1,oW 28 (.call (oF 168) [.t 26,.t 27]),oM 7 28]
 (oQ [oM 29 7,oW 30 (.eqn 4 true (.t 29) (.c .nili))]
 (.cond (.t 30) (oQ [oM 31 6,oM 32 7,oW 33 (.call (oF 49) [(.c (.str [116,97,98,108,101,115])),.t 31,.t 32]),oM 4 33]
 .ret) .skip)))))
 (.region [oW 34 (.arith .add (.t 21) (oI 1)),oM 21 34]))))
def YZ:aM :=
 (oQ [oW 39 (.arith .lss (.t 38) (.t 37))]
 (.seq (.cond (.t 39) .skip (.exit 2))
 (.seq (.block 3 (oQ [oW 40 (.indexAddr 4 (.t 36) (.t 38)),oL 41 4 40,oW 9 (.alloc 68 4 (.agg [.int .i64 0,.int .i64 0,.nsl,.int .i64 0])),oS 4 9 41]
 (oQ [oM 42 5,oM 43 1,oA 44 0 9,oL 45 2 44,oW 46 (.call (oF 170) [.t 42,.t 43,.t 45]),oM 10 46]
 (oQ [oM 47 10,oW 48 (.eqn 4 true (.t 47) (.c .nili))]
 (.cond (.t 48) (oQ [oM 49 10,oW 50 (.call (oF 49) [(.c (.str [116,97,98,108,101,115])),(oI (-1)),.t 49]),oM 4 50]
 .ret) .skip)))))
 (.region [oW 51 (.arith .add (.t 38) (oI 1)),oM 38 51]))))
def ZC:aM :=
 (oQ [oW 4 (.move (.c .nili))]
 .ret)
def ZB:aM :=
 (.seq (oQ [oM 35 1,oW 36 (.call (oF 169) [.t 35]),oW 37 (.len 1 (.t 36)),oW 38 (.move (oI 0))]
 (.block 2 (.loop YZ)))
 ZC)
def t70:aS:={ntmps:=52,results:=[.t 4],mode:=.full,body :=
 (oQ [oW 4 (.move (.c .nili))]
 (.seq (oQ [oM 11 0,oW 12 (.call (oF 166) [.t 11]),oW 13 (.un .not (.t 12))]
 (.cond (.t 13) (oQ [oW 14 (.makeIface 57 (oI 8)),oW 15 (.call (oF 49) [(.c (.str [116,97,98,108,101,115])),(oI (-1)),.t 14]),oM 4 15]
 .ret) .skip))
 (oQ [oM 16 0,oW 17 (.call (oF 167) [.t 16]),oM 5 17]
 (.seq (oQ [oM 18 5,oW 19 (.call (oF 42) [.t 18]),oW 20 (.field 0 none (.t 19)),oW 21 (.move (oI 0))]
 (.block 0 (.loop ZA)))
 ZB))))}
theorem c70:aH Tryz.prog Tryz.f70 .full=some t70:=by kernel_rfl
def t72:aS:={ntmps:=15,results:=[.t 4],mode:=.pure,body :=
 (oQ [oW 4 (.move (oI 0))]
 (.seq (oQ [oM 5 0,oW 6 (.len 1 (.t 5)),oW 7 (.arith .eql (.t 6) (oI 0))]
 (.cond (.t 7) (oQ [oW 4 (.move (oI 0))]
 .ret) .skip))
 (oQ [oM 8 0,oM 9 1,oM 10 0,oW 11 (.len 1 (.t 10)),oW 12 (.arith .rem (.t 9) (.t 11)),oW 13 (.indexAddr 1 (.t 8) (.t 12)),oD 14 13,oM 4 14]
 .ret)))}
theorem c72:aH Tryz.prog Tryz.f72 .pure=some t72:=by kernel_rfl
def YX:aM :=
 (oQ [oW 11 (.arith .lss (.t 10) (.t 9))]
 (.seq (.cond (.t 11) .skip (.exit 0))
 (.seq (.block 1 (oQ [oM 12 10,oW 13 (.indexAddr 2 (.t 8) (.t 10)),oL 14 2 13,oW 5 (.alloc 86 2 (.agg [.int .i64 0,.int .i64 0])),oM 4 12,oS 2 5 14]
 (.seq (oQ [oL 15 2 1,oL 16 2 5,oW 17 (.call (oF 101) [.t 15,.t 16]),oW 18 (.un .not (.t 17)),oM 19 18,gM 20 3 19 false,gL 21 2 5 19 false,gW 22 (.call (oF 171) [.t 21]) 19 false,gW 23 (.lookup (.agg [1,1]) (.bool false) false (.t 20) (.t 22)) 19 false,oW 24 (.pick (.t 19) (oB true) (.t 23))]
 (.cond (.t 24) (oQ [oM 25 4,oW 26 (.makeIface 57 (oI 2)),oW 27 (.call (oF 49) [(.c (.str [103,114,97,112,104])),.t 25,.t 26]),oM 2 27]
 .ret) .skip))
 (.region [oM 28 3,oL 29 2 5,oW 30 (.call (oF 171) [.t 29]),oZ (.mapUpdate (.agg [1,1]) (.t 28) (.t 30) (oB true))]))))
 (.region [oW 31 (.arith .add (.t 10) (oI 1)),oM 10 31]))))
def YY:aM :=
 (.seq (.seq (.draw [oRA 32 0 1,oRD 33 32,oR 34 (.arith .lss (.t 33) (oI 1)),oRM 35 34,rA 36 0 1 35 false,rD 37 36 35 false,rW 38 (.arith .gtr (.t 37) (oI 64)) 35 false,oR 39 (.pick (.t 35) (oB true) (.t 38)),oRM 40 39,rA 41 1 1 40 false,rD 42 41 40 false,rW 43 (.len 1 (.t 42)) 40 false,rW 44 (.arith .gtr (.t 43) (oI 200)) 40 false,oR 45 (.pick (.t 40) (oB true) (.t 44)),oRM 46 45,rL 47 2 1 46 false,⟨(some 48),.call (oF 172) [.t 47,oI 0],(some (46,false)),.create,0,false⟩,⟨(some 49),.len 2 (.t 48),(some (46,false)),.read,1,false⟩,rA 50 0 1 46 false,rD 51 50 46 false,⟨(some 52),.arith .neq (.t 49) (.t 51),(some (46,false)),.read,1,false⟩,nK 53 (.pick (.t 46) (oB true) (.t 52)) .read 1])
 (.cond (.t 53) (oQ [oW 54 (.makeIface 57 (oI 2)),oW 55 (.call (oF 49) [(.c (.str [103,114,97,112,104])),(oI (-1)),.t 54]),oM 2 55]
 .ret) .skip))
 (oQ [oW 2 (.move (.c .nili))]
 .ret))
def t73:aS:={ntmps:=56,results:=[.t 2],mode:=.pure,body :=
 (oQ [oW 1 (.box 76 2 (.t 0)),oW 2 (.move (.c .nili))]
 (oQ [oW 6 (.makeMap),oM 3 6]
 (.seq (oQ [oA 7 1 1,oD 8 7,oW 9 (.len 1 (.t 8)),oW 10 (.move (oI 0))]
 (.block 0 (.loop YX)))
 YY)))}
theorem c73:aH Tryz.prog Tryz.f73 .pure=some t73:=by kernel_rfl
def t74:aS:={ntmps:=8,results:=[(.cell 2 (some 2))],mode:=.pure,body :=
 (oQ [oW 1 (.box 76 2 (.t 0)),oW 2 (.alloc 76 2 (.agg [.int .i64 0,.nsl]))]
 (oQ [oA 3 1 1,oD 4 3,oW 5 (.call (oF 173) [.t 4]),oA 6 1 1,oS 1 6 5]
 (oQ [oL 7 2 1,oS 2 2 7]
 .ret)))}
theorem c74:aH Tryz.prog Tryz.f74 .pure=some t74:=by kernel_rfl
def t75:aS:={ntmps:=8,results:=[.t 2],mode:=.full,body :=
 (oQ [oW 1 (.box 76 2 (.t 0)),oW 2 (.move (.c .nilp))]
 (oQ [oL 3 2 1,oW 4 (.call (oF 40) [.t 3]),oW 5 (.makeMap),oW 6 (.build [.nsl,.nmap] [(0,1,.t 4),(1,1,.t 5)]),oW 7 (.box 271 2 (.t 6)),oM 2 7]
 .ret))}
theorem c75:aH Tryz.prog Tryz.f75 .full=some t75:=by kernel_rfl
def YV:aM :=
 (oQ [oW 12 (.arith .lss (.t 11) (.t 10))]
 (.seq (.cond (.t 12) .skip (.exit 0))
 (.seq (.block 1 (oQ [oW 13 (.indexAddr 2 (.t 9) (.t 11)),oL 14 2 13,oW 7 (.alloc 86 2 (.agg [.int .i64 0,.int .i64 0])),oS 2 7 14]
 (.block 2 (oQ [oL 16 2 2,oL 17 2 7,oW 18 (.call (oF 101) [.t 16,.t 17]),oW 19 (.un .not (.t 18)),oM 15 19]
 (.cond (.t 15) .skip (oQ [oW 21 (.indexArr 2 1 (.t 7) (oI 0)),oD 22 21,oM 23 1,oW 24 (.arith .eql (.t 22) (.t 23)),oM 20 24]
 (.cond (.t 20) (.region [oM 25 5,oW 26 (.indexArr 2 1 (.t 7) (oI 1)),oD 27 26,oW 28 (.buildSlice 3 1 (.int .i64 0) 1 [(0,.t 27)]),oW 29 (.append 3 1 8 (.t 25) (.t 28)),oM 5 29]) (oQ [oW 31 (.indexArr 2 1 (.t 7) (oI 1)),oD 32 31,oM 33 1,oW 34 (.arith .eql (.t 32) (.t 33)),oM 30 34]
 (.cond (.t 30) (.region [oM 35 5,oW 36 (.indexArr 2 1 (.t 7) (oI 0)),oD 37 36,oW 38 (.buildSlice 3 1 (.int .i64 0) 1 [(0,.t 37)]),oW 39 (.append 3 1 8 (.t 35) (.t 38)),oM 5 39]) .skip)))))))))
 (.region [oW 40 (.arith .add (.t 11) (oI 1)),oM 11 40]))))
def YW:aM :=
 (oQ [oM 41 5,oW 42 (.call (oF 142) [.t 41])]
 (oQ [oM 43 5,oW 44 (.call (oF 143) [.t 43]),oM 4 44]
 .ret))
def t76:aS:={ntmps:=45,results:=[.t 4],mode:=.pure,body :=
 (oQ [oW 2 (.box 76 2 (.t 0)),oW 4 (.move (.c .nsl))]
 (oQ [oW 5 (.move (.c .nsl))]
 (.seq (oQ [oA 8 1 2,oD 9 8,oW 10 (.len 1 (.t 9)),oW 11 (.move (oI 0))]
 (.block 0 (.loop YV)))
 YW)))}
theorem c76:aH Tryz.prog Tryz.f76 .pure=some t76:=by kernel_rfl
end Go.Dm.Tc
