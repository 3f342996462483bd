/-
The table of functions, brought into the machine's form (Tc, part 0). Written by program (wip/tools/table.lean.txt).
-/
import Derived.Test.YtlknnhbggakhnaaMm3
import Derived.Test.YtlknnhbggakhnaaRows
import Derived.KernelRfl
namespace Go.Dm.Tc
open Go.Proofs
abbrev oQ (l:List DOper) (c:DCode):DCode:=.seq (.region l) c
abbrev gW (d:Nat) (op:DOp) (g:Nat) (b:Bool):DOper:=⟨some d,op,some (g,b),.write,0,false⟩
abbrev gM (d x g:Nat) (b:Bool):DOper:=⟨some d,.move (.t x),some (g,b),.write,0,false⟩
abbrev gA (d o x g:Nat) (b:Bool):DOper:=⟨some d,.fieldAddr o (.t x),some (g,b),.write,0,false⟩
abbrev gD (d x g:Nat) (b:Bool):DOper:=⟨some d,.load none (.t x),some (g,b),.write,0,false⟩
abbrev gL (d n x g:Nat) (b:Bool):DOper:=⟨some d,.load (some n) (.t x),some (g,b),.write,0,false⟩
abbrev rW (d:Nat) (op:DOp) (g:Nat) (b:Bool):DOper:=⟨some d,op,some (g,b),.read,0,false⟩
abbrev rM (d x g:Nat) (b:Bool):DOper:=⟨some d,.move (.t x),some (g,b),.read,0,false⟩
abbrev rA (d o x g:Nat) (b:Bool):DOper:=⟨some d,.fieldAddr o (.t x),some (g,b),.read,0,false⟩
abbrev rD (d x g:Nat) (b:Bool):DOper:=⟨some d,.load none (.t x),some (g,b),.read,0,false⟩
abbrev rL (d n x g:Nat) (b:Bool):DOper:=⟨some d,.load (some n) (.t x),some (g,b),.read,0,false⟩
abbrev nK (d:Nat) (op:DOp) (k:OKind) (s:Nat):DOper:=⟨some d,op,none,k,s,false⟩
def t4l0:DCode :=
 (.seq (oQ [oM 23 10,oM 24 7,oW 25 (.arith .lss (.t 23) (.t 24))]
 (.cond (.t 25) .skip (.exit 0)))
 (.seq (.block 1 (oQ [oA 28 1 8,oD 29 28,oM 30 10,oW 31 (.arith .sub (.t 30) (oI 1)),oM 32 10,oW 33 (.build [.int .i64 0,.int .i64 0] [(0,1,.t 31),(1,1,.t 32)]),oW 34 (.buildSlice 38 2 (.agg [.int .i64 0,.int .i64 0]) 1 [(0,.t 33)]),oW 35 (.append 38 2 16 (.t 29) (.t 34)),oA 36 1 8,oS 1 36 35]
 (.region [oD 37 9,oM 38 10,oW 39 (.arith .sub (.t 38) (oI 1)),oW 40 (.buildSlice 3 1 (.int .i64 0) 1 [(0,.t 39)]),oW 41 (.append 3 1 8 (.t 37) (.t 40)),oS 1 9 41])))
 (.region [oM 26 10,oW 27 (.arith .add (.t 26) (oI 1)),oM 10 27])))
def t4k0:DCode :=
 (.seq (oQ [oL 42 2 8,oD 43 9,oW 44 (.call (oF 13) [.t 42,.t 43]),oW 45 (.un .not (.t 44)),oM 46 45,gD 47 9 46 false,gM 48 7 46 false,gW 49 (.arith .sub (.t 48) (oI 1)) 46 false,gW 50 (.call (oF 11) [.t 47,.t 49]) 46 false,gM 51 7 46 false,gW 52 (.arith .sub (.t 51) (oI 1)) 46 false,gW 53 (.arith .neq (.t 50) (.t 52)) 46 false,oW 54 (.pick (.t 46) (oB true) (.t 53))]
 (.cond (.t 54) (oQ [oW 6 (.move (oB false))]
 .ret) .skip))
 (oQ [oM 55 1,oM 56 7,oW 57 (.arith .sub (.t 56) (oI 2)),oW 58 (.call (oF 6) [.t 55,oI 1,.t 57]),oM 11 58]
 (oQ [oW 59 (.makeFunc 15 [.t 9]),oM 12 59]
 (oQ [oM 60 2,oM 61 11,oW 62 (.arith .add (.t 61) (oI 1)),oM 63 7,oW 64 (.arith .sub (.t 63) (oI 1)),oW 65 (.call (oF 6) [.t 60,.t 62,.t 64]),oM 13 65]
 (oQ [oM 66 12,oM 67 11,oM 68 13,oW 69 (.call (.t 66) [.t 67,.t 68]),oM 70 12,oM 71 11,oW 72 (.call (.t 70) [.t 71,(oI (-1))]),oM 73 12,oM 74 11,oW 75 (.call (.t 73) [.t 74,(oI (-2))]),oM 76 12,oM 77 7,oW 78 (.arith .sub (.t 77) (oI 1)),oW 79 (.call (.t 76) [.t 78,oI 0]),oM 14 69,oM 15 72,oM 16 75,oM 17 79]
 (.seq (.seq (.draw [oRL 80 2 8,oRM 81 14,oW 82 (.call (oF 13) [.t 80,.t 81]),nK 83 (.move (.t 82)) .read 1,⟨(some 84),.load (some 2) (.t 8),(some (83,false)),.read,1,false⟩,⟨(some 85),.move (.t 15),(some (83,false)),.read,1,false⟩,⟨(some 86),.call (oF 13) [.t 84,.t 85],(some (83,false)),.write,1,false⟩,nK 87 (.pick (.t 83) (oB true) (.t 86)) .read 2,nK 88 (.move (.t 87)) .read 2,⟨(some 89),.load (some 2) (.t 8),(some (88,false)),.read,2,false⟩,⟨(some 90),.move (.t 16),(some (88,false)),.read,2,false⟩,⟨(some 91),.call (oF 13) [.t 89,.t 90],(some (88,false)),.write,2,false⟩,nK 92 (.pick (.t 88) (oB true) (.t 91)) .read 3,nK 93 (.move (.t 92)) .read 3,⟨(some 94),.load (some 2) (.t 8),(some (93,false)),.read,3,false⟩,⟨(some 95),.move (.t 17),(some (93,false)),.read,3,false⟩,⟨(some 96),.call (oF 13) [.t 94,.t 95],(some (93,false)),.write,3,false⟩,nK 97 (.pick (.t 93) (oB true) (.t 96)) .read 4,nK 98 (.move (.t 97)) .read 4,⟨(some 99),.load (some 2) (.t 8),(some (98,false)),.read,4,false⟩,⟨(some 100),.load none (.t 9),(some (98,false)),.read,4,false⟩,⟨(some 101),.move (.t 7),(some (98,false)),.read,4,false⟩,⟨(some 102),.arith .sub (.t 101) (oI 1),(some (98,false)),.read,4,false⟩,⟨(some 103),.sliceSl 1 (.t 100) none (some (.t 102)),(some (98,false)),.read,4,false⟩,⟨(some 104),.call (oF 13) [.t 99,.t 103],(some (98,false)),.write,4,false⟩,nK 105 (.pick (.t 98) (oB true) (.t 104)) .read 5])
 (.cond (.t 105) (oQ [oW 6 (.move (oB false))]
 .ret) .skip))
 (oQ [oM 106 14,oM 107 13,oW 108 (.call (oF 10) [.t 106,.t 107]),oW 109 (.len 1 (.t 108)),oW 110 (.arith .eql (.t 109) (oI 0)),oM 111 110,gM 112 14 111 true,gM 113 11 111 true,gW 114 (.call (oF 11) [.t 112,.t 113]) 111 true,gW 115 (.arith .eql (.t 114) (oI (-1))) 111 true,oW 116 (.pick (.t 111) (.t 115) (oB false)),oM 117 116,gM 118 15 117 true,gM 119 11 117 true,gW 120 (.call (oF 11) [.t 118,.t 119]) 117 true,gW 121 (.arith .eql (.t 120) (oI 0)) 117 true,oW 122 (.pick (.t 117) (.t 121) (oB false)),oM 123 122,gM 124 16 123 true,gM 125 7 123 true,gW 126 (.arith .sub (.t 125) (oI 1)) 123 true,gW 127 (.call (oF 10) [.t 124,.t 126]) 123 true,gW 128 (.len 1 (.t 127)) 123 true,gW 129 (.arith .eql (.t 128) (oI 0)) 123 true,oW 130 (.pick (.t 123) (.t 129) (oB false)),oM 131 130,gM 132 17 131 true,gM 133 7 131 true,gW 134 (.arith .sub (.t 133) (oI 1)) 131 true,gW 135 (.call (oF 11) [.t 132,.t 134]) 131 true,gW 136 (.arith .eql (.t 135) (oI 1)) 131 true,oW 137 (.pick (.t 131) (.t 136) (oB false)),oM 138 137,gM 139 16 138 true,gM 140 11 138 true,gW 141 (.call (oF 12) [.t 139,.t 140]) 138 true,gW 142 (.len 1 (.t 141)) 138 true,gW 143 (.arith .eql (.t 142) (oI 0)) 138 true,oW 144 (.pick (.t 138) (.t 143) (oB false)),oM 145 144,gM 146 15 145 true,gM 147 11 145 true,gW 148 (.call (oF 12) [.t 146,.t 147]) 145 true,gW 149 (.len 1 (.t 148)) 145 true,gM 150 7 145 true,gM 151 11 145 true,gW 152 (.arith .sub (.t 150) (.t 151)) 145 true,gW 153 (.arith .eql (.t 149) (.t 152)) 145 true,oW 154 (.pick (.t 145) (.t 153) (oB false)),oM 155 154,gW 156 (.call (oF 14) []) 155 true,oW 157 (.pick (.t 155) (.t 156) (oB false)),oM 6 157]
 .ret)))))))
def t4:DFunc:={ntmps:=158,results:=[.t 6],mode:=.pure,body :=
 (oQ [oW 6 (.move (oB false))]
 (oQ [oM 18 0,oW 19 (.call (oF 6) [.t 18,oI 3,oI 9]),oM 7 19]
 (oQ [oM 20 7,oW 21 (.build [.int .i64 0,.nsl] [(0,1,.t 20)]),oW 8 (.alloc 27 2 (.agg [.int .i64 0,.nsl])),oS 2 8 21]
 (oQ [oW 22 (.buildSlice 3 1 (.int .i64 0) 1 [(0,(oI (-1)))]),oW 9 (.alloc 22 1 .nsl),oS 1 9 22]
 (.seq (oQ [oW 10 (.move (oI 1))]
 (.block 0 (.loop t4l0)))
 t4k0)))))}
theorem c4:compFunc Try.prog Try.f4 .pure=some t4:=by kernel_rfl
def t6:DFunc:={ntmps:=24,results:=[.t 6],mode:=.pure,body :=
 (oQ [oW 6 (.move (oI 0))]
 (oQ [oM 7 0,oM 8 2,oM 9 1,oW 10 (.arith .sub (.t 8) (.t 9)),oW 11 (.arith .add (.t 10) (oI 1)),oW 12 (.arith .rem (.t 7) (.t 11)),oM 0 12]
 (.seq (oQ [oM 13 0,oW 14 (.arith .lss (.t 13) (oI 0))]
 (.cond (.t 14) (.region [oM 15 0,oM 16 2,oW 17 (.arith .add (.t 15) (.t 16)),oM 18 1,oW 19 (.arith .sub (.t 17) (.t 18)),oW 20 (.arith .add (.t 19) (oI 1)),oM 0 20]) .skip))
 (oQ [oM 21 1,oM 22 0,oW 23 (.arith .add (.t 21) (.t 22)),oM 6 23]
 .ret))))}
theorem c6:compFunc Try.prog Try.f6 .pure=some t6:=by kernel_rfl
def t8:DFunc:={ntmps:=12,results:=[.t 6],mode:=.pure,body :=
 (oQ [oW 3 (.box 27 2 (.t 0)),oW 6 (.move (oB false))]
 (oQ [oL 7 2 3,oM 8 1,oW 9 (.call (oF 19) [.t 7,.t 8]),oM 10 2,oW 11 (.call (oF 18) [.t 9,.t 10]),oM 6 11]
 .ret))}
theorem c8:compFunc Try.prog Try.f8 .pure=some t8:=by kernel_rfl
def t9l0:DCode :=
 (.seq (oQ [oM 11 5,oM 12 0,oW 13 (.len 1 (.t 12)),oW 14 (.arith .lss (.t 11) (.t 13))]
 (.cond (.t 14) .skip (.exit 0)))
 (.seq (.block 1 (.seq (.draw [oRM 17 0,oRM 18 5,oR 19 (.indexAddr 1 (.t 17) (.t 18)),oRD 20 19,oRM 21 1,oRM 22 5,oR 23 (.indexAddr 1 (.t 21) (.t 22)),oRD 24 23,oR 25 (.arith .neq (.t 20) (.t 24))])
 (.cond (.t 25) (oQ [oW 4 (.move (oB false))]
 .ret) .skip)))
 (.region [oM 15 5,oW 16 (.arith .add (.t 15) (oI 1)),oM 5 16])))
def t9k0:DCode :=
 (oQ [oW 4 (.move (oB true))]
 .ret)
def t9:DFunc:={ntmps:=26,results:=[.t 4],mode:=.pure,body :=
 (oQ [oW 4 (.move (oB false))]
 (.seq (oQ [oM 6 0,oW 7 (.len 1 (.t 6)),oM 8 1,oW 9 (.len 1 (.t 8)),oW 10 (.arith .neq (.t 7) (.t 9))]
 (.cond (.t 10) (oQ [oW 4 (.move (oB false))]
 .ret) .skip))
 (.seq (oQ [oW 5 (.move (oI 0))]
 (.block 0 (.loop t9l0)))
 t9k0)))}
theorem c9:compFunc Try.prog Try.f9 .pure=some t9:=by kernel_rfl
def t10l0:DCode :=
 (.seq (oQ [oM 6 1,oW 7 (.arith .geq (.t 6) (oI 0)),oM 8 7,gM 9 1 8 true,gM 10 0 8 true,gW 11 (.len 1 (.t 10)) 8 true,gW 12 (.arith .lss (.t 9) (.t 11)) 8 true,oW 13 (.pick (.t 8) (.t 12) (oB false)),oM 14 13,gM 15 5 14 true,gW 16 (.len 1 (.t 15)) 14 true,gM 17 0 14 true,gW 18 (.len 1 (.t 17)) 14 true,gW 19 (.arith .lss (.t 16) (.t 18)) 14 true,oW 20 (.pick (.t 14) (.t 19) (oB false))]
 (.cond (.t 20) .skip (.exit 0)))
 (.block 1 (oQ [oM 21 5,oM 22 1,oW 23 (.buildSlice 3 1 (.int .i64 0) 1 [(0,.t 22)]),oW 24 (.append 3 1 8 (.t 21) (.t 23)),oM 5 24]
 (.seq (oQ [oM 25 0,oM 26 1,oW 27 (.indexAddr 1 (.t 25) (.t 26)),oD 28 27,oW 29 (.arith .eql (.t 28) (oI (-1)))]
 (.cond (.t 29) (oQ [oM 30 5,oM 4 30]
 .ret) .skip))
 (.region [oM 31 0,oM 32 1,oW 33 (.indexAddr 1 (.t 31) (.t 32)),oD 34 33,oM 1 34])))))
def t10k0:DCode :=
 (oQ [oW 4 (.move (.c .nsl))]
 .ret)
def t10:DFunc:={ntmps:=35,results:=[.t 4],mode:=.pure,body :=
 (oQ [oW 4 (.move (.c .nsl))]
 (oQ [oW 5 (.move (.c .nsl))]
 (.seq (.block 0 (.loop t10l0))
 t10k0)))}
theorem c10:compFunc Try.prog Try.f10 .pure=some t10:=by kernel_rfl
def t11:DFunc:={ntmps:=10,results:=[.t 4],mode:=.pure,body :=
 (oQ [oW 4 (.move (oI 0))]
 (oQ [oM 5 0,oM 6 1,oW 7 (.call (oF 10) [.t 5,.t 6]),oW 8 (.len 1 (.t 7)),oW 9 (.arith .sub (.t 8) (oI 1)),oM 4 9]
 .ret))}
theorem c11:compFunc Try.prog Try.f11 .pure=some t11:=by kernel_rfl
def t12l0:DCode :=
 (oQ [oW 10 (.arith .lss (.t 9) (.t 8))]
 (.seq (.cond (.t 10) .skip (.exit 0))
 (.seq (.block 1 (oQ [oM 11 9,oM 6 11]
 (oQ [oM 12 0,oM 13 6,oW 14 (.call (oF 10) [.t 12,.t 13]),oM 15 1,oW 16 (.call (oF 18) [.t 14,.t 15])]
 (.cond (.t 16) (.region [oM 17 5,oM 18 6,oW 19 (.buildSlice 3 1 (.int .i64 0) 1 [(0,.t 18)]),oW 20 (.append 3 1 8 (.t 17) (.t 19)),oM 5 20]) .skip))))
 (.region [oW 21 (.arith .add (.t 9) (oI 1)),oM 9 21]))))
def t12k0:DCode :=
 (oQ [oM 22 5,oM 4 22]
 .ret)
def t12:DFunc:={ntmps:=23,results:=[.t 4],mode:=.pure,body :=
 (oQ [oW 4 (.move (.c .nsl))]
 (oQ [oW 5 (.move (.c .nsl))]
 (.seq (oQ [oM 7 0,oW 8 (.len 1 (.t 7)),oW 9 (.move (oI 0))]
 (.block 0 (.loop t12l0)))
 t12k0)))}
theorem c12:compFunc Try.prog Try.f12 .pure=some t12:=by kernel_rfl
def t13l0:DCode :=
 (oQ [oW 11 (.arith .lss (.t 10) (.t 9))]
 (.seq (.cond (.t 11) .skip (.exit 0))
 (.seq (.block 1 (oQ [oM 12 10,oW 13 (.indexAddr 1 (.t 8) (.t 10)),oD 14 13,oM 6 12,oM 7 14]
 (.seq (.block 2 (oQ [oM 16 7,oW 17 (.arith .eql (.t 16) (oI (-1))),oM 15 17]
 (.cond (.t 15) (.region [oM 18 5,oW 19 (.arith .add (.t 18) (oI 1)),oM 5 19]) (oQ [oL 21 2 2,oM 22 7,oM 23 6,oW 24 (.call (oF 8) [.t 21,.t 22,.t 23]),oW 25 (.un .not (.t 24)),oM 20 25]
 (.cond (.t 20) (oQ [oW 4 (.move (oB false))]
 .ret) .skip)))))
 (oQ [oM 26 1,oM 27 6,oW 28 (.call (oF 11) [.t 26,.t 27]),oW 29 (.arith .lss (.t 28) (oI 0))]
 (.cond (.t 29) (oQ [oW 4 (.move (oB false))]
 .ret) .skip)))))
 (.region [oW 30 (.arith .add (.t 10) (oI 1)),oM 10 30]))))
def t13k0:DCode :=
 (oQ [oM 31 1,oW 32 (.len 1 (.t 31)),oA 33 0 2,oD 34 33,oW 35 (.arith .eql (.t 32) (.t 34)),oM 36 35,gM 37 5 36 true,gW 38 (.arith .eql (.t 37) (oI 1)) 36 true,oW 39 (.pick (.t 36) (.t 38) (oB false)),oM 4 39]
 .ret)
def t13:DFunc:={ntmps:=40,results:=[.t 4],mode:=.pure,body :=
 (oQ [oW 2 (.box 27 2 (.t 0)),oW 4 (.move (oB false))]
 (oQ [oW 5 (.move (oI 0))]
 (.seq (oQ [oM 8 1,oW 9 (.len 1 (.t 8)),oW 10 (.move (oI 0))]
 (.block 0 (.loop t13l0)))
 t13k0)))}
theorem c13:compFunc Try.prog Try.f13 .pure=some t13:=by kernel_rfl
def t14:DFunc:={ntmps:=32,results:=[.t 0],mode:=.pure,body :=
 (oQ [oW 0 (.move (oB false))]
 (oQ [oW 2 (.buildSlice 3 1 (.int .i64 0) 3 [(0,(oI (-1))),(1,oI 0),(2,oI 1)]),oM 1 2]
 (oQ [oM 3 1,oW 4 (.call (oF 10) [.t 3,oI 2]),oW 5 (.buildSlice 3 1 (.int .i64 0) 3 [(0,oI 2),(1,oI 1),(2,oI 0)]),oW 6 (.call (oF 9) [.t 4,.t 5]),oM 7 6,gM 8 1 7 true,gW 9 (.call (oF 11) [.t 8,oI 2]) 7 true,gW 10 (.arith .eql (.t 9) (oI 2)) 7 true,oW 11 (.pick (.t 7) (.t 10) (oB false)),oM 12 11,gM 13 1 12 true,gW 14 (.call (oF 12) [.t 13,oI 1]) 12 true,gW 15 (.buildSlice 3 1 (.int .i64 0) 2 [(0,oI 1),(1,oI 2)]) 12 true,gW 16 (.call (oF 9) [.t 14,.t 15]) 12 true,oW 17 (.pick (.t 12) (.t 16) (oB false)),oM 18 17,gW 19 (.build [.int .i64 0,.int .i64 0] [(0,1,oI 0),(1,1,oI 1)]) 18 true,gW 20 (.build [.int .i64 0,.int .i64 0] [(0,1,oI 1),(1,1,oI 2)]) 18 true,gW 21 (.buildSlice 38 2 (.agg [.int .i64 0,.int .i64 0]) 2 [(0,.t 19),(1,.t 20)]) 18 true,gW 22 (.build [.int .i64 0,.nsl] [(0,1,oI 3),(1,1,.t 21)]) 18 true,gM 23 1 18 true,gW 24 (.call (oF 13) [.t 22,.t 23]) 18 true,oW 25 (.pick (.t 18) (.t 24) (oB false)),oM 26 25,gW 27 (.buildSlice 3 1 (.int .i64 0) 2 [(0,oI 1),(1,oI 0)]) 26 true,gW 28 (.call (oF 10) [.t 27,oI 0]) 26 true,gW 29 (.len 1 (.t 28)) 26 true,gW 30 (.arith .eql (.t 29) (oI 0)) 26 true,oW 31 (.pick (.t 26) (.t 30) (oB false)),oM 0 31]
 .ret)))}
theorem c14:compFunc Try.prog Try.f14 .pure=some t14:=by kernel_rfl
def t15:DFunc:={ntmps:=15,results:=[.t 5],mode:=.pure,body :=
 (oQ [oW 5 (.move (.c .nsl))]
 (oQ [oW 7 (.buildSlice 3 1 (.int .i64 0) 0 []),oD 8 2,oW 9 (.append 3 1 8 (.t 7) (.t 8)),oM 6 9]
 (oQ [oM 10 6,oM 11 0,oM 12 1,oW 13 (.indexAddr 1 (.t 10) (.t 11)),oS 1 13 12]
 (oQ [oM 14 6,oM 5 14]
 .ret))))}
theorem c15:compFunc Try.prog Try.f15 .pure=some t15:=by kernel_rfl
def t18:DFunc:={ntmps:=9,results:=[.t 4],mode:=.pure,body :=
 (oQ [oW 4 (.move (oB false))]
 (oQ [oM 5 0,oM 6 1,oW 7 (.call (oF 20) [.t 5,.t 6]),oW 8 (.arith .geq (.t 7) (oI 0)),oM 4 8]
 .ret))}
theorem c18:compFunc Try.prog Try.f18 .pure=some t18:=by kernel_rfl
def t19l0:DCode :=
 (oQ [oW 12 (.arith .lss (.t 11) (.t 10))]
 (.seq (.cond (.t 12) .skip (.exit 0))
 (.seq (.block 1 (oQ [oW 13 (.indexAddr 2 (.t 9) (.t 11)),oL 14 2 13,oW 7 (.alloc 38 2 (.agg [.int .i64 0,.int .i64 0])),oS 2 7 14]
 (.block 2 (oQ [oL 16 2 2,oL 17 2 7,oW 18 (.call (oF 21) [.t 16,.t 17]),oW 19 (.un .not (.t 18)),oM 15 19]
 (.cond (.t 15) .skip (oQ [oW 21 (.indexArr 2 1 (.t 7) (oI 0)),oD 22 21,oM 23 1,oW 24 (.arith .eql (.t 22) (.t 23)),oM 20 24]
 (.cond (.t 20) (.region [oM 25 5,oW 26 (.indexArr 2 1 (.t 7) (oI 1)),oD 27 26,oW 28 (.buildSlice 3 1 (.int .i64 0) 1 [(0,.t 27)]),oW 29 (.append 3 1 8 (.t 25) (.t 28)),oM 5 29]) (oQ [oW 31 (.indexArr 2 1 (.t 7) (oI 1)),oD 32 31,oM 33 1,oW 34 (.arith .eql (.t 32) (.t 33)),oM 30 34]
 (.cond (.t 30) (.region [oM 35 5,oW 36 (.indexArr 2 1 (.t 7) (oI 0)),oD 37 36,oW 38 (.buildSlice 3 1 (.int .i64 0) 1 [(0,.t 37)]),oW 39 (.append 3 1 8 (.t 35) (.t 38)),oM 5 39]) .skip)))))))))
 (.region [oW 40 (.arith .add (.t 11) (oI 1)),oM 11 40]))))
def t19k0:DCode :=
 (oQ [oM 41 5,oW 42 (.call (oF 22) [.t 41])]
 (oQ [oM 43 5,oW 44 (.call (oF 23) [.t 43]),oM 4 44]
 .ret))
def t19:DFunc:={ntmps:=45,results:=[.t 4],mode:=.pure,body :=
 (oQ [oW 2 (.box 27 2 (.t 0)),oW 4 (.move (.c .nsl))]
 (oQ [oW 5 (.move (.c .nsl))]
 (.seq (oQ [oA 8 1 2,oD 9 8,oW 10 (.len 1 (.t 9)),oW 11 (.move (oI 0))]
 (.block 0 (.loop t19l0)))
 t19k0)))}
theorem c19:compFunc Try.prog Try.f19 .pure=some t19:=by kernel_rfl
def t20l0:DCode :=
 (oQ [oW 9 (.arith .lss (.t 8) (.t 7))]
 (.seq (.cond (.t 9) .skip (.exit 0))
 (.seq (.block 1 (oQ [oM 10 8,oM 5 10]
 (oQ [oM 11 1,oM 12 0,oM 13 5,oW 14 (.indexAddr 1 (.t 12) (.t 13)),oD 15 14,oW 16 (.arith .eql (.t 11) (.t 15))]
 (.cond (.t 16) (oQ [oM 17 5,oM 4 17]
 .ret) .skip))))
 (.region [oW 18 (.arith .add (.t 8) (oI 1)),oM 8 18]))))
def t20k0:DCode :=
 (oQ [oW 4 (.move (oI (-1)))]
 .ret)
def t20:DFunc:={ntmps:=19,results:=[.t 4],mode:=.pure,body :=
 (oQ [oW 4 (.move (oI 0))]
 (.seq (oQ [oM 6 0,oW 7 (.len 1 (.t 6)),oW 8 (.move (oI 0))]
 (.block 0 (.loop t20l0)))
 t20k0))}
theorem c20:compFunc Try.prog Try.f20 .pure=some t20:=by kernel_rfl
def t21:DFunc:={ntmps:=22,results:=[.t 4],mode:=.pure,body :=
 (oQ [oW 2 (.box 27 2 (.t 0)),oW 3 (.box 38 2 (.t 1)),oW 4 (.move (oB false))]
 (oQ [oL 5 2 2,oW 6 (.indexArr 2 1 (.t 3) (oI 0)),oD 7 6,oW 8 (.call (oF 24) [.t 5,.t 7]),oM 9 8,gL 10 2 2 9 true,gW 11 (.indexArr 2 1 (.t 3) (oI 1)) 9 true,gD 12 11 9 true,gW 13 (.call (oF 24) [.t 10,.t 12]) 9 true,oW 14 (.pick (.t 9) (.t 13) (oB false)),oM 15 14,gW 16 (.indexArr 2 1 (.t 3) (oI 0)) 15 true,gD 17 16 15 true,gW 18 (.indexArr 2 1 (.t 3) (oI 1)) 15 true,gD 19 18 15 true,gW 20 (.arith .neq (.t 17) (.t 19)) 15 true,oW 21 (.pick (.t 15) (.t 20) (oB false)),oM 4 21]
 .ret))}
theorem c21:compFunc Try.prog Try.f21 .pure=some t21:=by kernel_rfl
def t22:DFunc:={ntmps:=11,results:=[],mode:=.full,body :=
 (oQ [oM 3 0,oW 4 (.len 1 (.t 3)),oM 2 4]
 (.region [oM 5 0,oM 6 2,oM 7 2,oW 8 (.conv .u64 (.t 7)),oW 9 (.call (oF 26) [.t 8]),oW 10 (.call (oF 25) [.t 5,oI 0,.t 6,.t 9])]))}
theorem c22:compFunc Try.prog Try.f22 .full=some t22:=by kernel_rfl
def t23l0:DCode :=
 (.seq (oQ [oM 29 5,oM 30 4,oW 31 (.len 1 (.t 30)),oW 32 (.arith .lss (.t 29) (.t 31))]
 (.cond (.t 32) .skip (.exit 2)))
 (.seq (.block 3 (.seq (.draw [oRM 35 4,oRM 36 5,oR 37 (.indexAddr 1 (.t 35) (.t 36)),oRD 38 37,oRM 39 4,oRM 40 5,oR 41 (.arith .sub (.t 40) (oI 1)),oR 42 (.indexAddr 1 (.t 39) (.t 41)),oRD 43 42,oR 44 (.arith .neq (.t 38) (.t 43))])
 (.cond (.t 44) (oQ [oM 45 0,oM 46 3,oM 47 4,oM 48 5,oW 49 (.indexAddr 1 (.t 47) (.t 48)),oD 50 49,oW 51 (.indexAddr 1 (.t 45) (.t 46)),oS 1 51 50]
 (.region [oM 52 3,oW 53 (.arith .add (.t 52) (oI 1)),oM 3 53])) .skip)))
 (.region [oM 33 5,oW 34 (.arith .add (.t 33) (oI 1)),oM 5 34])))
def t23k0:DCode :=
 (oQ [oM 54 0,oM 55 3,oW 56 (.sliceSl 1 (.t 54) (some (.t 55)) none),oZ (.clear 1 (.int .i64 0) (.t 56))]
 (oQ [oM 57 0,oM 58 3,oW 59 (.sliceSl 1 (.t 57) none (some (.t 58))),oM 2 59]
 .ret))
def t23k1:DCode :=
 (.region [oM 14 3,oW 15 (.arith .add (.t 14) (oI 1)),oM 3 15])
def t23l1:DCode :=
 (.seq (oQ [oM 10 3,oM 11 0,oW 12 (.len 1 (.t 11)),oW 13 (.arith .lss (.t 10) (.t 12))]
 (.cond (.t 13) .skip (.exit 0)))
 (.seq (.block 1 (.seq (.draw [oRM 16 0,oRM 17 3,oR 18 (.indexAddr 1 (.t 16) (.t 17)),oRD 19 18,oRM 20 0,oRM 21 3,oR 22 (.arith .sub (.t 21) (oI 1)),oR 23 (.indexAddr 1 (.t 20) (.t 22)),oRD 24 23,oR 25 (.arith .eql (.t 19) (.t 24))])
 (.cond (.t 25) (oQ [oM 26 0,oM 27 3,oW 28 (.sliceSl 1 (.t 26) (some (.t 27)) none),oM 4 28]
 (.seq (oQ [oW 5 (.move (oI 1))]
 (.block 2 (.loop t23l0)))
 t23k0)) .skip)))
 t23k1))
def t23k2:DCode :=
 (oQ [oM 60 0,oM 2 60]
 .ret)
def t23:DFunc:={ntmps:=61,results:=[.t 2],mode:=.full,body :=
 (oQ [oW 2 (.move (.c .nsl))]
 (.seq (oQ [oM 6 0,oW 7 (.len 1 (.t 6)),oW 8 (.arith .lss (.t 7) (oI 2))]
 (.cond (.t 8) (oQ [oM 9 0,oM 2 9]
 .ret) .skip))
 (.seq (oQ [oW 3 (.move (oI 1))]
 (.block 0 (.loop t23l1)))
 t23k2)))}
theorem c23:compFunc Try.prog Try.f23 .full=some t23:=by kernel_rfl
def t24:DFunc:={ntmps:=13,results:=[.t 4],mode:=.pure,body :=
 (oQ [oW 2 (.box 27 2 (.t 0)),oW 4 (.move (oB false))]
 (oQ [oM 5 1,oW 6 (.arith .geq (.t 5) (oI 0)),oM 7 6,gM 8 1 7 true,gA 9 0 2 7 true,gD 10 9 7 true,gW 11 (.arith .lss (.t 8) (.t 10)) 7 true,oW 12 (.pick (.t 7) (.t 11) (oB false)),oM 4 12]
 .ret))}
theorem c24:compFunc Try.prog Try.f24 .pure=some t24:=by kernel_rfl
def t25l0:DCode :=
 (.block 1 (oQ [oM 19 2,oM 20 1,oW 21 (.arith .sub (.t 19) (.t 20)),oM 10 21]
 (.seq (oQ [oM 22 10,oW 23 (.arith .leq (.t 22) (oI 12))]
 (.cond (.t 23) (oQ [oM 24 0,oM 25 1,oM 26 2,oW 27 (.call (oF 27) [.t 24,.t 25,.t 26])]
 .ret) .skip))
 (.seq (oQ [oM 28 3,oW 29 (.arith .eql (.t 28) (oI 0))]
 (.cond (.t 29) (oQ [oM 30 0,oM 31 1,oM 32 2,oW 33 (.call (oF 28) [.t 30,.t 31,.t 32])]
 .ret) .skip))
 (.seq (oQ [oM 34 8,oW 35 (.un .not (.t 34))]
 (.cond (.t 35) (oQ [oM 36 0,oM 37 1,oM 38 2,oW 39 (.call (oF 29) [.t 36,.t 37,.t 38])]
 (.region [oM 40 3,oW 41 (.arith .sub (.t 40) (oI 1)),oM 3 41])) .skip))
 (oQ [oM 43 0,oM 44 1,oM 45 2,oW 46 (.call (oF 30) [.t 43,.t 44,.t 45]),oM 42 46,oX 47 42 0,oX 48 42 1,oM 11 47,oM 12 48]
 (.seq (oQ [oM 49 12,oW 50 (.arith .eql (.t 49) (oI 2))]
 (.cond (.t 50) (oQ [oM 51 0,oM 52 1,oM 53 2,oW 54 (.call (oF 31) [.t 51,.t 52,.t 53])]
 (oQ [oM 55 2,oW 56 (.arith .sub (.t 55) (oI 1)),oM 57 11,oM 58 1,oW 59 (.arith .sub (.t 57) (.t 58)),oW 60 (.arith .sub (.t 56) (.t 59)),oM 11 60]
 (.region [oW 12 (.move (oI 1))]))) .skip))
 (.seq (oQ [oM 61 8,oM 62 61,gM 63 9 62 true,oW 64 (.pick (.t 62) (.t 63) (oB false)),oM 65 64,gM 66 12 65 true,gW 67 (.arith .eql (.t 66) (oI 1)) 65 true,oW 68 (.pick (.t 65) (.t 67) (oB false))]
 (.cond (.t 68) (oQ [oM 69 0,oM 70 1,oM 71 2,oW 72 (.call (oF 32) [.t 69,.t 70,.t 71])]
 (.cond (.t 72) .ret .skip)) .skip))
 (.seq (.seq (.draw [oRM 73 1,oR 74 (.arith .gtr (.t 73) (oI 0)),oRM 75 74,rM 76 0 75 true,rM 77 1 75 true,rW 78 (.arith .sub (.t 77) (oI 1)) 75 true,rW 79 (.indexAddr 1 (.t 76) (.t 78)) 75 true,rD 80 79 75 true,rM 81 0 75 true,rM 82 11 75 true,rW 83 (.indexAddr 1 (.t 81) (.t 82)) 75 true,rD 84 83 75 true,gW 85 (.call (oF 33) [.t 80,.t 84]) 75 true,⟨(some 86),.un .not (.t 85),(some (75,true)),.read,1,false⟩,nK 87 (.pick (.t 75) (.t 86) (oB false)) .read 1])
 (.cond (.t 87) (oQ [oM 88 0,oM 89 1,oM 90 2,oM 91 11,oW 92 (.call (oF 34) [.t 88,.t 89,.t 90,.t 91]),oM 13 92]
 (oQ [oM 93 13,oM 1 93]
 (.exit 1))) .skip))
 (oQ [oM 95 0,oM 96 1,oM 97 2,oM 98 11,oW 99 (.call (oF 35) [.t 95,.t 96,.t 97,.t 98]),oM 94 99,oX 100 94 0,oX 101 94 1,oM 14 100,oM 15 101]
 (oQ [oM 102 15,oM 9 102]
 (oQ [oM 103 14,oM 104 1,oW 105 (.arith .sub (.t 103) (.t 104)),oM 106 2,oM 107 14,oW 108 (.arith .sub (.t 106) (.t 107)),oM 16 105,oM 17 108]
 (oQ [oM 109 10,oW 110 (.arith .quo (.t 109) (oI 8)),oM 18 110]
 (oQ [oM 111 16,oM 112 17,oW 113 (.arith .lss (.t 111) (.t 112))]
 (.cond (.t 113) (oQ [oM 114 16,oM 115 18,oW 116 (.arith .geq (.t 114) (.t 115)),oM 8 116]
 (oQ [oM 117 0,oM 118 1,oM 119 14,oM 120 3,oW 121 (.call (oF 25) [.t 117,.t 118,.t 119,.t 120])]
 (.region [oM 122 14,oW 123 (.arith .add (.t 122) (oI 1)),oM 1 123]))) (oQ [oM 124 17,oM 125 18,oW 126 (.arith .geq (.t 124) (.t 125)),oM 8 126]
 (oQ [oM 127 0,oM 128 14,oW 129 (.arith .add (.t 128) (oI 1)),oM 130 2,oM 131 3,oW 132 (.call (oF 25) [.t 127,.t 129,.t 130,.t 131])]
 (.region [oM 133 14,oM 2 133]))))))))))))))))))
def t25:DFunc:={ntmps:=134,results:=[],mode:=.full,body :=
 (oQ [oW 8 (.move (oB true))]
 (oQ [oW 9 (.move (oB true))]
 (.block 0 (.loop t25l0))))}
theorem c25:compFunc Try.prog Try.f25 .full=some t25:=by kernel_rfl
def t26:DFunc:={ntmps:=8,results:=[.t 2],mode:=.pure,body :=
 (oQ [oW 2 (.move (oI 0))]
 (.seq (.cond (oB false) (oQ [oM 3 0,oW 4 (.conv .u32 (.t 3)),oW 5 (.call (oF 36) [.t 4]),oM 2 5]
 .ret) .skip)
 (oQ [oM 6 0,oW 7 (.call (oF 37) [.t 6]),oM 2 7]
 .ret)))}
theorem c26:compFunc Try.prog Try.f26 .pure=some t26:=by kernel_rfl
def t27l0:DCode :=
 (.seq (.seq (.draw [oRM 16 7,oRM 17 1,oR 18 (.arith .gtr (.t 16) (.t 17)),oRM 19 18,rM 20 0 19 true,rM 21 7 19 true,rW 22 (.indexAddr 1 (.t 20) (.t 21)) 19 true,rD 23 22 19 true,rM 24 0 19 true,rM 25 7 19 true,rW 26 (.arith .sub (.t 25) (oI 1)) 19 true,rW 27 (.indexAddr 1 (.t 24) (.t 26)) 19 true,rD 28 27 19 true,gW 29 (.call (oF 33) [.t 23,.t 28]) 19 true,nK 30 (.pick (.t 19) (.t 29) (oB false)) .read 1])
 (.cond (.t 30) .skip (.exit 2)))
 (.seq (.block 3 (.draw [oRM 38 0,oRM 39 7,oR 40 (.arith .sub (.t 39) (oI 1)),oR 41 (.indexAddr 1 (.t 38) (.t 40)),oRD 42 41,oRM 43 0,oRM 44 7,oR 45 (.indexAddr 1 (.t 43) (.t 44)),oRD 46 45,oRM 33 0,oRM 34 7,oR 47 (.indexAddr 1 (.t 33) (.t 34)),oS 1 47 42,oRM 35 0,oRM 36 7,oR 37 (.arith .sub (.t 36) (oI 1)),nK 48 (.indexAddr 1 (.t 35) (.t 37)) .read 1,⟨none,.store 1 (.t 48) (.t 46),none,.write,1,false⟩]))
 (.region [oM 31 7,oW 32 (.arith .sub (.t 31) (oI 1)),oM 7 32])))
def t27k0:DCode :=
 (.region [oM 13 6,oW 14 (.arith .add (.t 13) (oI 1)),oM 6 14])
def t27l1:DCode :=
 (.seq (oQ [oM 10 6,oM 11 2,oW 12 (.arith .lss (.t 10) (.t 11))]
 (.cond (.t 12) .skip (.exit 0)))
 (.seq (.block 1 (oQ [oM 15 6,oM 7 15]
 (.block 2 (.loop t27l0))))
 t27k0))
def t27:DFunc:={ntmps:=49,results:=[],mode:=.full,body :=
 (oQ [oM 8 1,oW 9 (.arith .add (.t 8) (oI 1)),oM 6 9]
 (.block 0 (.loop t27l1)))}
theorem c27:compFunc Try.prog Try.f27 .full=some t27:=by kernel_rfl
def t28l0:DCode :=
 (.seq (oQ [oM 18 9,oW 19 (.arith .geq (.t 18) (oI 0))]
 (.cond (.t 19) .skip (.exit 0)))
 (.seq (.block 1 (.region [oM 22 0,oM 23 9,oM 24 8,oM 25 6,oW 26 (.call (oF 38) [.t 22,.t 23,.t 24,.t 25])]))
 (.region [oM 20 9,oW 21 (.arith .sub (.t 20) (oI 1)),oM 9 21])))
def t28l1:DCode :=
 (.seq (oQ [oM 29 10,oW 30 (.arith .geq (.t 29) (oI 0))]
 (.cond (.t 30) .skip (.exit 2)))
 (.seq (.block 3 (.seq (.draw [oRM 39 0,oRM 40 6,oRM 41 10,oR 42 (.arith .add (.t 40) (.t 41)),oR 43 (.indexAddr 1 (.t 39) (.t 42)),oRD 44 43,oRM 45 0,oRM 46 6,oR 47 (.indexAddr 1 (.t 45) (.t 46)),oRD 48 47,oRM 33 0,oRM 34 6,oR 49 (.indexAddr 1 (.t 33) (.t 34)),oS 1 49 44,oRM 35 0,oRM 36 6,oRM 37 10,oR 38 (.arith .add (.t 36) (.t 37)),nK 50 (.indexAddr 1 (.t 35) (.t 38)) .read 1,⟨none,.store 1 (.t 50) (.t 48),none,.write,1,false⟩])
 (.region [oM 51 0,oM 52 7,oM 53 10,oM 54 6,oW 55 (.call (oF 38) [.t 51,.t 52,.t 53,.t 54])])))
 (.region [oM 31 10,oW 32 (.arith .sub (.t 31) (oI 1)),oM 10 32])))
def t28k0:DCode :=
 (oQ [oM 27 8,oW 28 (.arith .sub (.t 27) (oI 1)),oM 10 28]
 (.block 2 (.loop t28l1)))
def t28:DFunc:={ntmps:=56,results:=[],mode:=.full,body :=
 (oQ [oM 11 1,oM 6 11]
 (oQ [oW 7 (.move (oI 0))]
 (oQ [oM 12 2,oM 13 1,oW 14 (.arith .sub (.t 12) (.t 13)),oM 8 14]
 (.seq (oQ [oM 15 8,oW 16 (.arith .sub (.t 15) (oI 1)),oW 17 (.arith .quo (.t 16) (oI 2)),oM 9 17]
 (.block 0 (.loop t28l0)))
 t28k0))))}
theorem c28:compFunc Try.prog Try.f28 .full=some t28:=by kernel_rfl
def t29l0:DCode :=
 (.seq (oQ [oM 26 9,oM 27 1,oM 28 6,oW 29 (.arith .quo (.t 28) (oI 4)),oW 30 (.arith .mul (.t 29) (oI 2)),oW 31 (.arith .add (.t 27) (.t 30)),oW 32 (.arith .add (.t 31) (oI 1)),oW 33 (.arith .leq (.t 26) (.t 32))]
 (.cond (.t 33) .skip (.exit 0)))
 (.seq (.block 1 (oQ [oW 36 (.call (oF 40) [.t 7]),oM 37 8,oW 38 (.arith .sub (.t 37) (.c (.int .u64 1))),oW 39 (.arith .and (.t 36) (.t 38)),oW 40 (.conv .i64 (.t 39)),oM 10 40]
 (.seq (oQ [oM 41 10,oM 42 6,oW 43 (.arith .geq (.t 41) (.t 42))]
 (.cond (.t 43) (.region [oM 44 10,oM 45 6,oW 46 (.arith .sub (.t 44) (.t 45)),oM 10 46]) .skip))
 (.draw [oRM 53 0,oRM 54 1,oRM 55 10,oR 56 (.arith .add (.t 54) (.t 55)),oR 57 (.indexAddr 1 (.t 53) (.t 56)),oRD 58 57,oRM 59 0,oRM 60 9,oR 61 (.indexAddr 1 (.t 59) (.t 60)),oRD 62 61,oRM 47 0,oRM 48 9,oR 63 (.indexAddr 1 (.t 47) (.t 48)),oS 1 63 58,oRM 49 0,oRM 50 1,oRM 51 10,oR 52 (.arith .add (.t 50) (.t 51)),nK 64 (.indexAddr 1 (.t 49) (.t 52)) .read 1,⟨none,.store 1 (.t 64) (.t 62),none,.write,1,false⟩]))))
 (.region [oM 34 9,oW 35 (.arith .add (.t 34) (oI 1)),oM 9 35])))
def t29:DFunc:={ntmps:=65,results:=[],mode:=.full,body :=
 (oQ [oM 11 2,oM 12 1,oW 13 (.arith .sub (.t 11) (.t 12)),oM 6 13]
 (oQ [oM 14 6,oW 15 (.arith .geq (.t 14) (oI 8))]
 (.cond (.t 15) (oQ [oM 16 6,oW 17 (.conv .u64 (.t 16)),oW 7 (.alloc 65 1 (.int .u64 0)),oS 1 7 17]
 (oQ [oM 18 6,oW 19 (.call (oF 39) [.t 18]),oM 8 19]
 (oQ [oM 20 1,oM 21 6,oW 22 (.arith .quo (.t 21) (oI 4)),oW 23 (.arith .mul (.t 22) (oI 2)),oW 24 (.arith .add (.t 20) (.t 23)),oW 25 (.arith .sub (.t 24) (oI 1)),oM 9 25]
 (.block 0 (.loop t29l0))))) .skip)))}
theorem c29:compFunc Try.prog Try.f29 .full=some t29:=by kernel_rfl
def t30:DFunc:={ntmps:=57,results:=[.t 6,.t 7],mode:=.full,body :=
 (oQ [oW 6 (.move (oI 0)),oW 7 (.move (oI 0))]
 (oQ [oM 13 2,oM 14 1,oW 15 (.arith .sub (.t 13) (.t 14)),oM 8 15]
 (oQ [oW 9 (.alloc 3 1 (.int .i64 0))]
 (oQ [oM 16 1,oM 17 8,oW 18 (.arith .quo (.t 17) (oI 4)),oW 19 (.arith .mul (.t 18) (oI 1)),oW 20 (.arith .add (.t 16) (.t 19)),oM 10 20]
 (oQ [oM 21 1,oM 22 8,oW 23 (.arith .quo (.t 22) (oI 4)),oW 24 (.arith .mul (.t 23) (oI 2)),oW 25 (.arith .add (.t 21) (.t 24)),oM 11 25]
 (oQ [oM 26 1,oM 27 8,oW 28 (.arith .quo (.t 27) (oI 4)),oW 29 (.arith .mul (.t 28) (oI 3)),oW 30 (.arith .add (.t 26) (.t 29)),oM 12 30]
 (.seq (oQ [oM 31 8,oW 32 (.arith .geq (.t 31) (oI 8))]
 (.cond (.t 32) (.seq (oQ [oM 33 8,oW 34 (.arith .geq (.t 33) (oI 50))]
 (.cond (.t 34) (oQ [oM 35 0,oM 36 10,oW 37 (.call (oF 41) [.t 35,.t 36,.t 9]),oM 10 37]
 (oQ [oM 38 0,oM 39 11,oW 40 (.call (oF 41) [.t 38,.t 39,.t 9]),oM 11 40]
 (.region [oM 41 0,oM 42 12,oW 43 (.call (oF 41) [.t 41,.t 42,.t 9]),oM 12 43]))) .skip))
 (.region [oM 44 0,oM 45 10,oM 46 11,oM 47 12,oW 48 (.call (oF 42) [.t 44,.t 45,.t 46,.t 47,.t 9]),oM 11 48])) .skip))
 (oQ [oD 49 9]
 (.block 0 (oQ [oW 52 (.arith .eql (.t 49) (oI 0)),oM 51 52]
 (.cond (.t 51) (oQ [oM 53 11,oM 6 53,oW 7 (.move (oI 1))]
 .ret) (oQ [oW 55 (.arith .eql (.t 49) (oI 12)),oM 54 55]
 (.cond (.t 54) (oQ [oM 56 11,oM 6 56,oW 7 (.move (oI 2))]
 .ret) (oQ [oM 50 11,oM 6 50,oW 7 (.move (oI 0))]
 .ret))))))))))))))}
theorem c30:compFunc Try.prog Try.f30 .full=some t30:=by kernel_rfl
def t31l0:DCode :=
 (.seq (oQ [oM 11 6,oM 12 7,oW 13 (.arith .lss (.t 11) (.t 12))]
 (.cond (.t 13) .skip (.exit 0)))
 (.block 1 (.seq (.draw [oRM 18 0,oRM 19 7,oR 20 (.indexAddr 1 (.t 18) (.t 19)),oRD 21 20,oRM 22 0,oRM 23 6,oR 24 (.indexAddr 1 (.t 22) (.t 23)),oRD 25 24,oRM 14 0,oRM 15 6,oR 26 (.indexAddr 1 (.t 14) (.t 15)),oS 1 26 21,oRM 16 0,oRM 17 7,nK 27 (.indexAddr 1 (.t 16) (.t 17)) .read 1,⟨none,.store 1 (.t 27) (.t 25),none,.write,1,false⟩])
 (oQ [oM 28 6,oW 29 (.arith .add (.t 28) (oI 1)),oM 6 29]
 (.region [oM 30 7,oW 31 (.arith .sub (.t 30) (oI 1)),oM 7 31])))))
def t31:DFunc:={ntmps:=32,results:=[],mode:=.full,body :=
 (oQ [oM 8 1,oM 6 8]
 (oQ [oM 9 2,oW 10 (.arith .sub (.t 9) (oI 1)),oM 7 10]
 (.block 0 (.loop t31l0))))}
theorem c31:compFunc Try.prog Try.f31 .full=some t31:=by kernel_rfl
def t32l0:DCode :=
 (.seq (.seq (.draw [oRM 17 7,oRM 18 2,oR 19 (.arith .lss (.t 17) (.t 18)),oRM 20 19,rM 21 0 20 true,rM 22 7 20 true,rW 23 (.indexAddr 1 (.t 21) (.t 22)) 20 true,rD 24 23 20 true,rM 25 0 20 true,rM 26 7 20 true,rW 27 (.arith .sub (.t 26) (oI 1)) 20 true,rW 28 (.indexAddr 1 (.t 25) (.t 27)) 20 true,rD 29 28 20 true,gW 30 (.call (oF 33) [.t 24,.t 29]) 20 true,⟨(some 31),.un .not (.t 30),(some (20,true)),.read,1,false⟩,nK 32 (.pick (.t 20) (.t 31) (oB false)) .read 1])
 (.cond (.t 32) .skip (.exit 2)))
 (.block 3 (.region [oM 33 7,oW 34 (.arith .add (.t 33) (oI 1)),oM 7 34])))
def t32l1:DCode :=
 (.seq (oQ [oM 64 9,oW 65 (.arith .geq (.t 64) (oI 1))]
 (.cond (.t 65) .skip (.exit 4)))
 (.seq (.block 5 (.seq (.seq (.draw [oRM 68 0,oRM 69 9,oR 70 (.indexAddr 1 (.t 68) (.t 69)),oRD 71 70,oRM 72 0,oRM 73 9,oR 74 (.arith .sub (.t 73) (oI 1)),oR 75 (.indexAddr 1 (.t 72) (.t 74)),oRD 76 75,oW 77 (.call (oF 33) [.t 71,.t 76]),nK 78 (.un .not (.t 77)) .read 1])
 (.cond (.t 78) (.exit 4) .skip))
 (.draw [oRM 84 0,oRM 85 9,oR 86 (.arith .sub (.t 85) (oI 1)),oR 87 (.indexAddr 1 (.t 84) (.t 86)),oRD 88 87,oRM 89 0,oRM 90 9,oR 91 (.indexAddr 1 (.t 89) (.t 90)),oRD 92 91,oRM 79 0,oRM 80 9,oR 93 (.indexAddr 1 (.t 79) (.t 80)),oS 1 93 88,oRM 81 0,oRM 82 9,oR 83 (.arith .sub (.t 82) (oI 1)),nK 94 (.indexAddr 1 (.t 81) (.t 83)) .read 1,⟨none,.store 1 (.t 94) (.t 92),none,.write,1,false⟩])))
 (.region [oM 66 9,oW 67 (.arith .sub (.t 66) (oI 1)),oM 9 67])))
def t32l2:DCode :=
 (.seq (oQ [oM 101 10,oM 102 2,oW 103 (.arith .lss (.t 101) (.t 102))]
 (.cond (.t 103) .skip (.exit 6)))
 (.seq (.block 7 (.seq (.seq (.draw [oRM 106 0,oRM 107 10,oR 108 (.indexAddr 1 (.t 106) (.t 107)),oRD 109 108,oRM 110 0,oRM 111 10,oR 112 (.arith .sub (.t 111) (oI 1)),oR 113 (.indexAddr 1 (.t 110) (.t 112)),oRD 114 113,oW 115 (.call (oF 33) [.t 109,.t 114]),nK 116 (.un .not (.t 115)) .read 1])
 (.cond (.t 116) (.exit 6) .skip))
 (.draw [oRM 122 0,oRM 123 10,oR 124 (.arith .sub (.t 123) (oI 1)),oR 125 (.indexAddr 1 (.t 122) (.t 124)),oRD 126 125,oRM 127 0,oRM 128 10,oR 129 (.indexAddr 1 (.t 127) (.t 128)),oRD 130 129,oRM 117 0,oRM 118 10,oR 131 (.indexAddr 1 (.t 117) (.t 118)),oS 1 131 126,oRM 119 0,oRM 120 10,oR 121 (.arith .sub (.t 120) (oI 1)),nK 132 (.indexAddr 1 (.t 119) (.t 121)) .read 1,⟨none,.store 1 (.t 132) (.t 130),none,.write,1,false⟩])))
 (.region [oM 104 10,oW 105 (.arith .add (.t 104) (oI 1)),oM 10 105])))
def t32k0:DCode :=
 (oQ [oM 95 2,oM 96 7,oW 97 (.arith .sub (.t 95) (.t 96)),oW 98 (.arith .geq (.t 97) (oI 2))]
 (.cond (.t 98) (oQ [oM 99 7,oW 100 (.arith .add (.t 99) (oI 1)),oM 10 100]
 (.block 6 (.loop t32l2))) .skip))
def t32k1:DCode :=
 (.seq (oQ [oM 35 7,oM 36 2,oW 37 (.arith .eql (.t 35) (.t 36))]
 (.cond (.t 37) (oQ [oW 6 (.move (oB true))]
 .ret) .skip))
 (.seq (oQ [oM 38 2,oM 39 1,oW 40 (.arith .sub (.t 38) (.t 39)),oW 41 (.arith .lss (.t 40) (oI 50))]
 (.cond (.t 41) (oQ [oW 6 (.move (oB false))]
 .ret) .skip))
 (.seq (.draw [oRM 47 0,oRM 48 7,oR 49 (.arith .sub (.t 48) (oI 1)),oR 50 (.indexAddr 1 (.t 47) (.t 49)),oRD 51 50,oRM 52 0,oRM 53 7,oR 54 (.indexAddr 1 (.t 52) (.t 53)),oRD 55 54,oRM 42 0,oRM 43 7,oR 56 (.indexAddr 1 (.t 42) (.t 43)),oS 1 56 51,oRM 44 0,oRM 45 7,oR 46 (.arith .sub (.t 45) (oI 1)),nK 57 (.indexAddr 1 (.t 44) (.t 46)) .read 1,⟨none,.store 1 (.t 57) (.t 55),none,.write,1,false⟩])
 (.seq (oQ [oM 58 7,oM 59 1,oW 60 (.arith .sub (.t 58) (.t 59)),oW 61 (.arith .geq (.t 60) (oI 2))]
 (.cond (.t 61) (oQ [oM 62 7,oW 63 (.arith .sub (.t 62) (oI 1)),oM 9 63]
 (.block 4 (.loop t32l1))) .skip))
 t32k0))))
def t32k2:DCode :=
 (.region [oM 15 8,oW 16 (.arith .add (.t 15) (oI 1)),oM 8 16])
def t32l3:DCode :=
 (.seq (oQ [oM 13 8,oW 14 (.arith .lss (.t 13) (oI 5))]
 (.cond (.t 14) .skip (.exit 0)))
 (.seq (.block 1 (.seq (.block 2 (.loop t32l0))
 t32k1))
 t32k2))
def t32k3:DCode :=
 (oQ [oW 6 (.move (oB false))]
 .ret)
def t32:DFunc:={ntmps:=133,results:=[.t 6],mode:=.full,body :=
 (oQ [oW 6 (.move (oB false))]
 (oQ [oM 11 1,oW 12 (.arith .add (.t 11) (oI 1)),oM 7 12]
 (.seq (oQ [oW 8 (.move (oI 0))]
 (.block 0 (.loop t32l3)))
 t32k3)))}
theorem c32:compFunc Try.prog Try.f32 .full=some t32:=by kernel_rfl
def t33:DFunc:={ntmps:=17,results:=[.t 4],mode:=.pure,body :=
 (oQ [oW 4 (.move (oB false))]
 (oQ [oM 5 0,oW 6 (.call (oF 43) [.t 5]),oM 7 6,gM 8 1 7 true,gW 9 (.call (oF 43) [.t 8]) 7 true,gW 10 (.un .not (.t 9)) 7 true,oW 11 (.pick (.t 7) (.t 10) (oB false)),oM 12 11,gM 13 0 12 false,gM 14 1 12 false,gW 15 (.arith .lss (.t 13) (.t 14)) 12 false,oW 16 (.pick (.t 12) (oB true) (.t 15)),oM 4 16]
 .ret))}
theorem c33:compFunc Try.prog Try.f33 .pure=some t33:=by kernel_rfl
def t34l0:DCode :=
 (.seq (.seq (.draw [oRM 29 9,oRM 30 10,oR 31 (.arith .leq (.t 29) (.t 30)),oRM 32 31,rM 33 0 32 true,rM 34 1 32 true,rW 35 (.indexAddr 1 (.t 33) (.t 34)) 32 true,rD 36 35 32 true,rM 37 0 32 true,rM 38 9 32 true,rW 39 (.indexAddr 1 (.t 37) (.t 38)) 32 true,rD 40 39 32 true,gW 41 (.call (oF 33) [.t 36,.t 40]) 32 true,⟨(some 42),.un .not (.t 41),(some (32,true)),.read,1,false⟩,nK 43 (.pick (.t 32) (.t 42) (oB false)) .read 1])
 (.cond (.t 43) .skip (.exit 2)))
 (.block 3 (.region [oM 44 9,oW 45 (.arith .add (.t 44) (oI 1)),oM 9 45])))
def t34l1:DCode :=
 (.seq (.seq (.draw [oRM 46 9,oRM 47 10,oR 48 (.arith .leq (.t 46) (.t 47)),oRM 49 48,rM 50 0 49 true,rM 51 1 49 true,rW 52 (.indexAddr 1 (.t 50) (.t 51)) 49 true,rD 53 52 49 true,rM 54 0 49 true,rM 55 10 49 true,rW 56 (.indexAddr 1 (.t 54) (.t 55)) 49 true,rD 57 56 49 true,gW 58 (.call (oF 33) [.t 53,.t 57]) 49 true,nK 59 (.pick (.t 49) (.t 58) (oB false)) .read 1])
 (.cond (.t 59) .skip (.exit 4)))
 (.block 5 (.region [oM 60 10,oW 61 (.arith .sub (.t 60) (oI 1)),oM 10 61])))
def t34k0:DCode :=
 (.seq (oQ [oM 62 9,oM 63 10,oW 64 (.arith .gtr (.t 62) (.t 63))]
 (.cond (.t 64) (.exit 0) .skip))
 (.seq (.draw [oRM 69 0,oRM 70 10,oR 71 (.indexAddr 1 (.t 69) (.t 70)),oRD 72 71,oRM 73 0,oRM 74 9,oR 75 (.indexAddr 1 (.t 73) (.t 74)),oRD 76 75,oRM 65 0,oRM 66 9,oR 77 (.indexAddr 1 (.t 65) (.t 66)),oS 1 77 72,oRM 67 0,oRM 68 10,nK 78 (.indexAddr 1 (.t 67) (.t 68)) .read 1,⟨none,.store 1 (.t 78) (.t 76),none,.write,1,false⟩])
 (oQ [oM 79 9,oW 80 (.arith .add (.t 79) (oI 1)),oM 9 80]
 (.region [oM 81 10,oW 82 (.arith .sub (.t 81) (oI 1)),oM 10 82]))))
def t34k1:DCode :=
 (.seq (.block 4 (.loop t34l1))
 t34k0)
def t34l2:DCode :=
 (.block 1 (.seq (.block 2 (.loop t34l0))
 t34k1))
def t34k2:DCode :=
 (oQ [oM 83 9,oM 8 83]
 .ret)
def t34:DFunc:={ntmps:=84,results:=[.t 8],mode:=.full,body :=
 (oQ [oW 8 (.move (oI 0))]
 (.seq (.draw [oRM 15 0,oRM 16 3,oR 17 (.indexAddr 1 (.t 15) (.t 16)),oRD 18 17,oRM 19 0,oRM 20 1,oR 21 (.indexAddr 1 (.t 19) (.t 20)),oRD 22 21,oRM 11 0,oRM 12 1,oR 23 (.indexAddr 1 (.t 11) (.t 12)),oS 1 23 18,oRM 13 0,oRM 14 3,nK 24 (.indexAddr 1 (.t 13) (.t 14)) .read 1,⟨none,.store 1 (.t 24) (.t 22),none,.write,1,false⟩])
 (oQ [oM 25 1,oW 26 (.arith .add (.t 25) (oI 1)),oM 27 2,oW 28 (.arith .sub (.t 27) (oI 1)),oM 9 26,oM 10 28]
 (.seq (.block 0 (.loop t34l2))
 t34k2))))}
theorem c34:compFunc Try.prog Try.f34 .full=some t34:=by kernel_rfl
def t35l0:DCode :=
 (.seq (.seq (.draw [oRM 30 10,oRM 31 11,oR 32 (.arith .leq (.t 30) (.t 31)),oRM 33 32,rM 34 0 33 true,rM 35 10 33 true,rW 36 (.indexAddr 1 (.t 34) (.t 35)) 33 true,rD 37 36 33 true,rM 38 0 33 true,rM 39 1 33 true,rW 40 (.indexAddr 1 (.t 38) (.t 39)) 33 true,rD 41 40 33 true,gW 42 (.call (oF 33) [.t 37,.t 41]) 33 true,nK 43 (.pick (.t 33) (.t 42) (oB false)) .read 1])
 (.cond (.t 43) .skip (.exit 0)))
 (.block 1 (.region [oM 44 10,oW 45 (.arith .add (.t 44) (oI 1)),oM 10 45])))
def t35l1:DCode :=
 (.seq (.seq (.draw [oRM 46 10,oRM 47 11,oR 48 (.arith .leq (.t 46) (.t 47)),oRM 49 48,rM 50 0 49 true,rM 51 11 49 true,rW 52 (.indexAddr 1 (.t 50) (.t 51)) 49 true,rD 53 52 49 true,rM 54 0 49 true,rM 55 1 49 true,rW 56 (.indexAddr 1 (.t 54) (.t 55)) 49 true,rD 57 56 49 true,gW 58 (.call (oF 33) [.t 53,.t 57]) 49 true,⟨(some 59),.un .not (.t 58),(some (49,true)),.read,1,false⟩,nK 60 (.pick (.t 49) (.t 59) (oB false)) .read 1])
 (.cond (.t 60) .skip (.exit 2)))
 (.block 3 (.region [oM 61 11,oW 62 (.arith .sub (.t 61) (oI 1)),oM 11 62])))
def t35l2:DCode :=
 (.seq (.seq (.draw [oRM 99 10,oRM 100 11,oR 101 (.arith .leq (.t 99) (.t 100)),oRM 102 101,rM 103 0 102 true,rM 104 10 102 true,rW 105 (.indexAddr 1 (.t 103) (.t 104)) 102 true,rD 106 105 102 true,rM 107 0 102 true,rM 108 1 102 true,rW 109 (.indexAddr 1 (.t 107) (.t 108)) 102 true,rD 110 109 102 true,gW 111 (.call (oF 33) [.t 106,.t 110]) 102 true,nK 112 (.pick (.t 102) (.t 111) (oB false)) .read 1])
 (.cond (.t 112) .skip (.exit 6)))
 (.block 7 (.region [oM 113 10,oW 114 (.arith .add (.t 113) (oI 1)),oM 10 114])))
def t35l3:DCode :=
 (.seq (.seq (.draw [oRM 115 10,oRM 116 11,oR 117 (.arith .leq (.t 115) (.t 116)),oRM 118 117,rM 119 0 118 true,rM 120 11 118 true,rW 121 (.indexAddr 1 (.t 119) (.t 120)) 118 true,rD 122 121 118 true,rM 123 0 118 true,rM 124 1 118 true,rW 125 (.indexAddr 1 (.t 123) (.t 124)) 118 true,rD 126 125 118 true,gW 127 (.call (oF 33) [.t 122,.t 126]) 118 true,⟨(some 128),.un .not (.t 127),(some (118,true)),.read,1,false⟩,nK 129 (.pick (.t 118) (.t 128) (oB false)) .read 1])
 (.cond (.t 129) .skip (.exit 8)))
 (.block 9 (.region [oM 130 11,oW 131 (.arith .sub (.t 130) (oI 1)),oM 11 131])))
def t35k0:DCode :=
 (.seq (oQ [oM 132 10,oM 133 11,oW 134 (.arith .gtr (.t 132) (.t 133))]
 (.cond (.t 134) (.exit 4) .skip))
 (.seq (.draw [oRM 139 0,oRM 140 11,oR 141 (.indexAddr 1 (.t 139) (.t 140)),oRD 142 141,oRM 143 0,oRM 144 10,oR 145 (.indexAddr 1 (.t 143) (.t 144)),oRD 146 145,oRM 135 0,oRM 136 10,oR 147 (.indexAddr 1 (.t 135) (.t 136)),oS 1 147 142,oRM 137 0,oRM 138 11,nK 148 (.indexAddr 1 (.t 137) (.t 138)) .read 1,⟨none,.store 1 (.t 148) (.t 146),none,.write,1,false⟩])
 (oQ [oM 149 10,oW 150 (.arith .add (.t 149) (oI 1)),oM 10 150]
 (.region [oM 151 11,oW 152 (.arith .sub (.t 151) (oI 1)),oM 11 152]))))
def t35k1:DCode :=
 (.seq (.block 8 (.loop t35l3))
 t35k0)
def t35l4:DCode :=
 (.block 5 (.seq (.block 6 (.loop t35l2))
 t35k1))
def t35k2:DCode :=
 (.seq (.draw [oRM 157 0,oRM 158 1,oR 159 (.indexAddr 1 (.t 157) (.t 158)),oRD 160 159,oRM 161 0,oRM 162 11,oR 163 (.indexAddr 1 (.t 161) (.t 162)),oRD 164 163,oRM 153 0,oRM 154 11,oR 165 (.indexAddr 1 (.t 153) (.t 154)),oS 1 165 160,oRM 155 0,oRM 156 1,nK 166 (.indexAddr 1 (.t 155) (.t 156)) .read 1,⟨none,.store 1 (.t 166) (.t 164),none,.write,1,false⟩])
 (oQ [oM 167 11,oM 8 167,oW 9 (.move (oB false))]
 .ret))
def t35k3:DCode :=
 (.seq (oQ [oM 63 10,oM 64 11,oW 65 (.arith .gtr (.t 63) (.t 64))]
 (.cond (.t 65) (.seq (.draw [oRM 70 0,oRM 71 1,oR 72 (.indexAddr 1 (.t 70) (.t 71)),oRD 73 72,oRM 74 0,oRM 75 11,oR 76 (.indexAddr 1 (.t 74) (.t 75)),oRD 77 76,oRM 66 0,oRM 67 11,oR 78 (.indexAddr 1 (.t 66) (.t 67)),oS 1 78 73,oRM 68 0,oRM 69 1,nK 79 (.indexAddr 1 (.t 68) (.t 69)) .read 1,⟨none,.store 1 (.t 79) (.t 77),none,.write,1,false⟩])
 (oQ [oM 80 11,oM 8 80,oW 9 (.move (oB true))]
 .ret)) .skip))
 (.seq (.draw [oRM 85 0,oRM 86 11,oR 87 (.indexAddr 1 (.t 85) (.t 86)),oRD 88 87,oRM 89 0,oRM 90 10,oR 91 (.indexAddr 1 (.t 89) (.t 90)),oRD 92 91,oRM 81 0,oRM 82 10,oR 93 (.indexAddr 1 (.t 81) (.t 82)),oS 1 93 88,oRM 83 0,oRM 84 11,nK 94 (.indexAddr 1 (.t 83) (.t 84)) .read 1,⟨none,.store 1 (.t 94) (.t 92),none,.write,1,false⟩])
 (oQ [oM 95 10,oW 96 (.arith .add (.t 95) (oI 1)),oM 10 96]
 (oQ [oM 97 11,oW 98 (.arith .sub (.t 97) (oI 1)),oM 11 98]
 (.seq (.block 4 (.loop t35l4))
 t35k2)))))
def t35k4:DCode :=
 (.seq (.block 2 (.loop t35l1))
 t35k3)
def t35:DFunc:={ntmps:=168,results:=[.t 8,.t 9],mode:=.full,body :=
 (oQ [oW 8 (.move (oI 0)),oW 9 (.move (oB false))]
 (.seq (.draw [oRM 16 0,oRM 17 3,oR 18 (.indexAddr 1 (.t 16) (.t 17)),oRD 19 18,oRM 20 0,oRM 21 1,oR 22 (.indexAddr 1 (.t 20) (.t 21)),oRD 23 22,oRM 12 0,oRM 13 1,oR 24 (.indexAddr 1 (.t 12) (.t 13)),oS 1 24 19,oRM 14 0,oRM 15 3,nK 25 (.indexAddr 1 (.t 14) (.t 15)) .read 1,⟨none,.store 1 (.t 25) (.t 23),none,.write,1,false⟩])
 (oQ [oM 26 1,oW 27 (.arith .add (.t 26) (oI 1)),oM 28 2,oW 29 (.arith .sub (.t 28) (oI 1)),oM 10 27,oM 11 29]
 (.seq (.block 0 (.loop t35l0))
 t35k4))))}
theorem c35:compFunc Try.prog Try.f35 .full=some t35:=by kernel_rfl
def t36:DFunc:={ntmps:=19,results:=[.t 2],mode:=.pure,body :=
 (oQ [oW 2 (.move (oI 0))]
 (.seq (oQ [oM 3 0,oW 4 (.arith .geq (.t 3) (.c (.int .u32 65536)))]
 (.cond (.t 4) (oQ [oM 5 0,oW 6 (.arith .shr (.t 5) (.c (.int .u64 16))),oM 0 6]
 (.region [oW 2 (.move (oI 16))])) .skip))
 (.seq (oQ [oM 7 0,oW 8 (.arith .geq (.t 7) (.c (.int .u32 256)))]
 (.cond (.t 8) (oQ [oM 9 0,oW 10 (.arith .shr (.t 9) (.c (.int .u64 8))),oM 0 10]
 (.region [oM 11 2,oW 12 (.arith .add (.t 11) (oI 8)),oM 2 12])) .skip))
 (oQ [oM 13 2,oM 14 0,oW 15 (.conv .u8 (.t 14)),oW 16 (.indexStr (.c (.str [0,1,2,2,3,3,3,3,4,4,4,4,4,4,4,4,5,5,5,5,5,5,5,5,5,5,5,5,5,5,5,5,6,6,6,6,6,6,6,6,6,6,6,6,6,6,6,6,6,6,6,6,6,6,6,6,6,6,6,6,6,6,6,6,7,7,7,7,7,7,7,7,7,7,7,7,7,7,7,7,7,7,7,7,7,7,7,7,7,7,7,7,7,7,7,7,7,7,7,7,7,7,7,7,7,7,7,7,7,7,7,7,7,7,7,7,7,7,7,7,7,7,7,7,7,7,7,7,8,8,8,8,8,8,8,8,8,8,8,8,8,8,8,8,8,8,8,8,8,8,8,8,8,8,8,8,8,8,8,8,8,8,8,8,8,8,8,8,8,8,8,8,8,8,8,8,8,8,8,8,8,8,8,8,8,8,8,8,8,8,8,8,8,8,8,8,8,8,8,8,8,8,8,8,8,8,8,8,8,8,8,8,8,8,8,8,8,8,8,8,8,8,8,8,8,8,8,8,8,8,8,8,8,8,8,8,8,8,8,8,8,8,8,8,8,8,8,8,8,8,8,8,8,8,8,8])) (.t 15)),oW 17 (.conv .i64 (.t 16)),oW 18 (.arith .add (.t 13) (.t 17)),oM 2 18]
 .ret))))}
theorem c36:compFunc Try.prog Try.f36 .pure=some t36:=by kernel_rfl
def t37:DFunc:={ntmps:=25,results:=[.t 2],mode:=.pure,body :=
 (oQ [oW 2 (.move (oI 0))]
 (.seq (oQ [oM 3 0,oW 4 (.arith .geq (.t 3) (.c (.int .u64 4294967296)))]
 (.cond (.t 4) (oQ [oM 5 0,oW 6 (.arith .shr (.t 5) (.c (.int .u64 32))),oM 0 6]
 (.region [oW 2 (.move (oI 32))])) .skip))
 (.seq (oQ [oM 7 0,oW 8 (.arith .geq (.t 7) (.c (.int .u64 65536)))]
 (.cond (.t 8) (oQ [oM 9 0,oW 10 (.arith .shr (.t 9) (.c (.int .u64 16))),oM 0 10]
 (.region [oM 11 2,oW 12 (.arith .add (.t 11) (oI 16)),oM 2 12])) .skip))
 (.seq (oQ [oM 13 0,oW 14 (.arith .geq (.t 13) (.c (.int .u64 256)))]
 (.cond (.t 14) (oQ [oM 15 0,oW 16 (.arith .shr (.t 15) (.c (.int .u64 8))),oM 0 16]
 (.region [oM 17 2,oW 18 (.arith .add (.t 17) (oI 8)),oM 2 18])) .skip))
 (oQ [oM 19 2,oM 20 0,oW 21 (.conv .u8 (.t 20)),oW 22 (.indexStr (.c (.str [0,1,2,2,3,3,3,3,4,4,4,4,4,4,4,4,5,5,5,5,5,5,5,5,5,5,5,5,5,5,5,5,6,6,6,6,6,6,6,6,6,6,6,6,6,6,6,6,6,6,6,6,6,6,6,6,6,6,6,6,6,6,6,6,7,7,7,7,7,7,7,7,7,7,7,7,7,7,7,7,7,7,7,7,7,7,7,7,7,7,7,7,7,7,7,7,7,7,7,7,7,7,7,7,7,7,7,7,7,7,7,7,7,7,7,7,7,7,7,7,7,7,7,7,7,7,7,7,8,8,8,8,8,8,8,8,8,8,8,8,8,8,8,8,8,8,8,8,8,8,8,8,8,8,8,8,8,8,8,8,8,8,8,8,8,8,8,8,8,8,8,8,8,8,8,8,8,8,8,8,8,8,8,8,8,8,8,8,8,8,8,8,8,8,8,8,8,8,8,8,8,8,8,8,8,8,8,8,8,8,8,8,8,8,8,8,8,8,8,8,8,8,8,8,8,8,8,8,8,8,8,8,8,8,8,8,8,8,8,8,8,8,8,8,8,8,8,8,8,8,8,8,8,8,8,8])) (.t 21)),oW 23 (.conv .i64 (.t 22)),oW 24 (.arith .add (.t 19) (.t 23)),oM 2 24]
 .ret)))))}
theorem c37:compFunc Try.prog Try.f37 .pure=some t37:=by kernel_rfl
def t38l0:DCode :=
 (.block 1 (oQ [oM 11 8,oW 12 (.arith .mul (oI 2) (.t 11)),oW 13 (.arith .add (.t 12) (oI 1)),oM 9 13]
 (.seq (oQ [oM 14 9,oM 15 2,oW 16 (.arith .geq (.t 14) (.t 15))]
 (.cond (.t 16) (.exit 0) .skip))
 (.seq (.seq (.draw [oRM 17 9,oR 18 (.arith .add (.t 17) (oI 1)),oRM 19 2,oR 20 (.arith .lss (.t 18) (.t 19)),oRM 21 20,rM 22 0 21 true,rM 23 3 21 true,rM 24 9 21 true,rW 25 (.arith .add (.t 23) (.t 24)) 21 true,rW 26 (.indexAddr 1 (.t 22) (.t 25)) 21 true,rD 27 26 21 true,rM 28 0 21 true,rM 29 3 21 true,rM 30 9 21 true,rW 31 (.arith .add (.t 29) (.t 30)) 21 true,rW 32 (.arith .add (.t 31) (oI 1)) 21 true,rW 33 (.indexAddr 1 (.t 28) (.t 32)) 21 true,rD 34 33 21 true,gW 35 (.call (oF 33) [.t 27,.t 34]) 21 true,nK 36 (.pick (.t 21) (.t 35) (oB false)) .read 1])
 (.cond (.t 36) (.region [oM 37 9,oW 38 (.arith .add (.t 37) (oI 1)),oM 9 38]) .skip))
 (.seq (.seq (.draw [oRM 39 0,oRM 40 3,oRM 41 8,oR 42 (.arith .add (.t 40) (.t 41)),oR 43 (.indexAddr 1 (.t 39) (.t 42)),oRD 44 43,oRM 45 0,oRM 46 3,oRM 47 9,oR 48 (.arith .add (.t 46) (.t 47)),oR 49 (.indexAddr 1 (.t 45) (.t 48)),oRD 50 49,oW 51 (.call (oF 33) [.t 44,.t 50]),nK 52 (.un .not (.t 51)) .read 1])
 (.cond (.t 52) .ret .skip))
 (.seq (.draw [oRM 61 0,oRM 62 3,oRM 63 9,oR 64 (.arith .add (.t 62) (.t 63)),oR 65 (.indexAddr 1 (.t 61) (.t 64)),oRD 66 65,oRM 67 0,oRM 68 3,oRM 69 8,oR 70 (.arith .add (.t 68) (.t 69)),oR 71 (.indexAddr 1 (.t 67) (.t 70)),oRD 72 71,oRM 53 0,oRM 54 3,oRM 55 8,oR 56 (.arith .add (.t 54) (.t 55)),oR 73 (.indexAddr 1 (.t 53) (.t 56)),oS 1 73 66,oRM 57 0,oRM 58 3,oRM 59 9,oR 60 (.arith .add (.t 58) (.t 59)),nK 74 (.indexAddr 1 (.t 57) (.t 60)) .read 1,⟨none,.store 1 (.t 74) (.t 72),none,.write,1,false⟩])
 (.region [oM 75 9,oM 8 75])))))))
def t38:DFunc:={ntmps:=76,results:=[],mode:=.full,body :=
 (oQ [oM 10 1,oM 8 10]
 (.block 0 (.loop t38l0)))}
theorem c38:compFunc Try.prog Try.f38 .full=some t38:=by kernel_rfl
def t39:DFunc:={ntmps:=7,results:=[.t 2],mode:=.pure,body :=
 (oQ [oW 2 (.move (.c (.int .u64 0)))]
 (oQ [oM 3 0,oW 4 (.conv .u64 (.t 3)),oW 5 (.call (oF 26) [.t 4]),oW 6 (.arith .shl (.c (.int .u64 1)) (.t 5)),oM 2 6]
 .ret))}
theorem c39:compFunc Try.prog Try.f39 .pure=some t39:=by kernel_rfl
def t40:DFunc:={ntmps:=33,results:=[.t 2],mode:=.full,body :=
 (oQ [oW 2 (.move (.c (.int .u64 0)))]
 (.seq (.draw [oRM 3 0,oR 4 (.nilCheck (.t 3)),oRD 5 4,oRM 6 0,oR 7 (.nilCheck (.t 6)),oRD 8 7,oR 9 (.arith .shl (.t 8) (.c (.int .u64 13))),oR 10 (.arith .xor (.t 5) (.t 9)),oR 11 (.nilCheck (.t 3)),oS 1 11 10])
 (.seq (.draw [oRM 12 0,oR 13 (.nilCheck (.t 12)),oRD 14 13,oRM 15 0,oR 16 (.nilCheck (.t 15)),oRD 17 16,oR 18 (.arith .shr (.t 17) (.c (.int .u64 7))),oR 19 (.arith .xor (.t 14) (.t 18)),oR 20 (.nilCheck (.t 12)),oS 1 20 19])
 (.seq (.draw [oRM 21 0,oR 22 (.nilCheck (.t 21)),oRD 23 22,oRM 24 0,oR 25 (.nilCheck (.t 24)),oRD 26 25,oR 27 (.arith .shl (.t 26) (.c (.int .u64 17))),oR 28 (.arith .xor (.t 23) (.t 27)),oR 29 (.nilCheck (.t 21)),oS 1 29 28])
 (oQ [oM 30 0,oW 31 (.nilCheck (.t 30)),oD 32 31,oM 2 32]
 .ret)))))}
theorem c40:compFunc Try.prog Try.f40 .full=some t40:=by kernel_rfl
def t41:DFunc:={ntmps:=15,results:=[.t 6],mode:=.full,body :=
 (oQ [oW 6 (.move (oI 0))]
 (oQ [oM 7 0,oM 8 1,oW 9 (.arith .sub (.t 8) (oI 1)),oM 10 1,oM 11 1,oW 12 (.arith .add (.t 11) (oI 1)),oM 13 2,oW 14 (.call (oF 42) [.t 7,.t 9,.t 10,.t 12,.t 13]),oM 6 14]
 .ret))}
theorem c41:compFunc Try.prog Try.f41 .full=some t41:=by kernel_rfl
def t42:DFunc:={ntmps:=36,results:=[.t 10],mode:=.full,body :=
 (oQ [oW 10 (.move (oI 0))]
 (oQ [oM 12 0,oM 13 1,oM 14 2,oM 15 4,oW 16 (.call (oF 44) [.t 12,.t 13,.t 14,.t 15]),oM 11 16,oX 17 11 0,oX 18 11 1,oM 1 17,oM 2 18]
 (oQ [oM 20 0,oM 21 2,oM 22 3,oM 23 4,oW 24 (.call (oF 44) [.t 20,.t 21,.t 22,.t 23]),oM 19 24,oX 25 19 0,oX 26 19 1,oM 2 25,oM 3 26]
 (oQ [oM 28 0,oM 29 1,oM 30 2,oM 31 4,oW 32 (.call (oF 44) [.t 28,.t 29,.t 30,.t 31]),oM 27 32,oX 33 27 0,oX 34 27 1,oM 1 33,oM 2 34]
 (oQ [oM 35 2,oM 10 35]
 .ret)))))}
theorem c42:compFunc Try.prog Try.f42 .full=some t42:=by kernel_rfl
def t43:DFunc:={ntmps:=6,results:=[.t 2],mode:=.pure,body :=
 (oQ [oW 2 (.move (oB false))]
 (oQ [oM 3 0,oM 4 0,oW 5 (.arith .neq (.t 3) (.t 4)),oM 2 5]
 .ret))}
theorem c43:compFunc Try.prog Try.f43 .pure=some t43:=by kernel_rfl
end Go.Dm.Tc
