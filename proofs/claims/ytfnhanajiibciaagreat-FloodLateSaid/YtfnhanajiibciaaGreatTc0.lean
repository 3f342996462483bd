/-
The table of functions, brought into the machine's form (Tc, part 0). Written by program (wip/tools/table.lean.txt).
-/
import Derived.Test.YtfnhanajiibciaaGreatMm3
import Derived.Test.YtfnhanajiibciaaGreatRows
import Derived.KernelRfl
namespace Go.Dm.Tc
open Go.Proofs
abbrev oQ (l:List DOper) (c:DCode):DCode:=.seq (.region l) c
abbrev gW (d:Nat) (op:DOp) (g:Nat) (b:Bool):DOper:=⟨some d,op,some (g,b),.write,0,false⟩
abbrev gM (d x g:Nat) (b:Bool):DOper:=⟨some d,.move (.t x),some (g,b),.write,0,false⟩
abbrev gA (d o x g:Nat) (b:Bool):DOper:=⟨some d,.fieldAddr o (.t x),some (g,b),.write,0,false⟩
abbrev gD (d x g:Nat) (b:Bool):DOper:=⟨some d,.load none (.t x),some (g,b),.write,0,false⟩
abbrev gL (d n x g:Nat) (b:Bool):DOper:=⟨some d,.load (some n) (.t x),some (g,b),.write,0,false⟩
abbrev rW (d:Nat) (op:DOp) (g:Nat) (b:Bool):DOper:=⟨some d,op,some (g,b),.read,0,false⟩
abbrev rM (d x g:Nat) (b:Bool):DOper:=⟨some d,.move (.t x),some (g,b),.read,0,false⟩
abbrev rA (d o x g:Nat) (b:Bool):DOper:=⟨some d,.fieldAddr o (.t x),some (g,b),.read,0,false⟩
abbrev rD (d x g:Nat) (b:Bool):DOper:=⟨some d,.load none (.t x),some (g,b),.read,0,false⟩
abbrev rL (d n x g:Nat) (b:Bool):DOper:=⟨some d,.load (some n) (.t x),some (g,b),.read,0,false⟩
abbrev nK (d:Nat) (op:DOp) (k:OKind) (s:Nat):DOper:=⟨some d,op,none,k,s,false⟩
def t8s0:DCode :=
 (.region [oM 44 13,oW 45 (.arith .add (.t 44) (oI 1)),oM 13 45])
def t8l0:DCode :=
 (.seq (oQ [oM 36 13,oM 37 0,oW 38 (.len 1 (.t 37)),oW 39 (.arith .lss (.t 36) (.t 38)),oM 40 39,gM 41 13 40 true,gW 42 (.arith .lss (.t 41) (oI 8)) 40 true,oW 43 (.pick (.t 40) (.t 42) (oB false))]
 (.cond (.t 43) .skip (.exit 0)))
 (.seq (.block 1 (oQ [oM 46 13,oW 47 (.arith .rem (.t 46) (oI 4)),oM 48 13,oW 49 (.build [.int .i64 0,.int .i64 0] [(0,1,.t 47),(1,1,.t 48)]),oW 14 (.alloc 37 2 (.agg [.int .i64 0,.int .i64 0])),oS 2 14 49]
 (.seq (.draw [oRL 51 6 9,oRL 52 2 14,oRM 53 0,oRM 54 13,oR 55 (.indexAddr 2 (.t 53) (.t 54)),oRL 56 2 55,nK 57 (.call (oF 18) [.t 56]) .create 0,nK 58 (.call (oF 46) [.t 51,.t 52,.t 57]) .write 1,nK 50 (.move (.t 58)) .read 2,nK 59 (.extract (.t 50) 0) .read 2,⟨none,.store 6 (.t 9) (.t 59),none,.write,2,false⟩,nK 60 (.extract (.t 50) 1) .read 2])
 (.seq (.draw [oRL 62 6 10,oRL 63 2 14,oRM 64 0,oRM 65 13,oR 66 (.indexAddr 2 (.t 64) (.t 65)),oRL 67 2 66,nK 68 (.call (oF 18) [.t 67]) .create 0,nK 69 (.call (oF 46) [.t 62,.t 63,.t 68]) .write 1,nK 61 (.move (.t 69)) .read 2,nK 70 (.extract (.t 61) 0) .read 2,⟨none,.store 6 (.t 10) (.t 70),none,.write,2,false⟩,nK 71 (.extract (.t 61) 1) .read 2])
 (.seq (.draw [oRM 72 0,oRM 73 13,oR 74 (.indexAddr 2 (.t 72) (.t 73)),oRL 75 2 74,nK 76 (.call (oF 18) [.t 75]) .create 0,oRL 77 2 4,nK 78 (.call (oF 18) [.t 77]) .write 1,nK 79 (.call (oF 47) [.t 76,.t 78]) .write 2])
 (.cond (.t 79) (.region [oM 80 12,oW 81 (.arith .add (.t 80) (oI 1)),oM 12 81]) .skip))))))
 t8s0))
def t8s1:DCode :=
 (.region [oW 131 (.arith .add (.t 95) (oI 1)),oM 95 131])
def t8l1:DCode :=
 (oQ [oW 96 (.arith .lss (.t 95) (.t 94))]
 (.seq (.cond (.t 96) .skip (.exit 2))
 (.seq (.block 3 (oQ [oW 97 (.indexAddr 7 (.t 93) (.t 95)),oL 98 7 97,oW 19 (.alloc 58 7 (.agg [.int .i64 0,.int .i64 0,.int .i64 0,.int .i64 0,.nsl,.int .i64 0,.bool false])),oS 7 19 98]
 (oQ [oL 100 6 10,oL 101 2 8,oA 102 2 19,oL 103 2 102,oW 104 (.call (oF 32) [.t 100,.t 101,.t 103]),oM 99 104,oX 105 99 0,oX 106 99 1,oW 20 (.alloc 58 7 (.agg [.int .i64 0,.int .i64 0,.int .i64 0,.int .i64 0,.nsl,.int .i64 0,.bool false])),oS 7 20 105,oM 21 106]
 (.seq (oQ [oM 107 21,oW 108 (.un .not (.t 107)),oM 109 108,gA 110 5 20 109 false,gD 111 110 109 false,gW 112 (.arith .neq (.t 111) (oI (-1))) 109 false,oW 113 (.pick (.t 109) (oB true) (.t 112)),oM 114 113,gA 115 5 19 114 false,gD 116 115 114 false,gW 117 (.arith .neq (.t 116) (oI (-1))) 114 false,oW 118 (.pick (.t 114) (oB true) (.t 117)),oM 119 118,gA 120 4 20 119 false,gD 121 120 119 false,gA 122 4 19 119 false,gD 123 122 119 false,gW 124 (.call (oF 48) [.t 121,.t 123]) 119 false,gW 125 (.un .not (.t 124)) 119 false,oW 126 (.pick (.t 119) (oB true) (.t 125))]
 (.cond (.t 126) (oQ [oW 6 (.move (oB false))]
 .ret) .skip))
 (oQ [oA 127 6 19,oD 128 127]
 (.cond (.t 128) (.region [oM 129 17,oW 130 (.arith .add (.t 129) (oI 1)),oM 17 130]) .skip))))))
 t8s1)))
def t8k0:DCode :=
 (oQ [oL 132 6 9,oM 133 7,oW 134 (.build [.int .i64 0,.int .i64 0,.int .i64 0,.int .i64 0,.int .i64 0,.nsl,.nsl] []),oW 135 (.call (oF 49) [.t 132,.t 133,.t 134]),oW 136 (.len 1 (.t 135)),oM 22 136]
 (oQ [oL 137 6 15,oL 138 2 8,oW 139 (.call (oF 40) [.t 137,.t 138]),oW 140 (.len 1 (.t 139)),oM 141 12,oW 142 (.arith .eql (.t 140) (.t 141)),oM 143 142,gL 144 6 10 143 true,gL 145 2 8 143 true,gW 146 (.call (oF 40) [.t 144,.t 145]) 143 true,gW 147 (.len 1 (.t 146)) 143 true,gM 148 12 143 true,gW 149 (.arith .eql (.t 147) (.t 148)) 143 true,oW 150 (.pick (.t 143) (.t 149) (oB false)),oM 151 150,gM 152 16 151 true,gW 153 (.len 1 (.t 152)) 151 true,gM 154 22 151 true,gM 155 17 151 true,gW 156 (.arith .add (.t 154) (.t 155)) 151 true,gW 157 (.arith .eql (.t 153) (.t 156)) 151 true,oW 158 (.pick (.t 151) (.t 157) (oB false)),oM 159 158,gM 160 2 159 true,gW 161 (.un .not (.t 160)) 159 true,gM 162 161 159 true,gM 163 17 162 false,gW 164 (.arith .eql (.t 163) (oI 0)) 162 false,gW 165 (.pick (.t 162) (oB true) (.t 164)) 159 true,oW 166 (.pick (.t 159) (.t 165) (oB false)),oM 167 166,gL 168 6 15 167 true,gW 169 (.call (oF 41) [.t 168]) 167 true,oW 170 (.pick (.t 167) (.t 169) (oB false)),oM 171 170,gW 172 (.call (oF 45) []) 171 true,oW 173 (.pick (.t 171) (.t 172) (oB false)),oM 6 173]
 .ret))
def t8k1:DCode :=
 (.seq (.draw [oRL 83 6 9,oRL 85 2 8,oRL 86 2 4,nK 87 (.call (oF 18) [.t 86]) .create 0,oRM 84 7,nK 88 (.call (oF 42) [.t 83,.t 84,.t 85,.t 87]) .write 1,nK 82 (.move (.t 88)) .read 2,nK 89 (.extract (.t 82) 0) .read 2,nK 15 (.alloc 29 6 (.agg [.int .i64 0,.nsl,.nsl,.nsl,.nsl,.nsl])) .create 0,⟨none,.store 6 (.t 15) (.t 89),none,.write,3,false⟩,nK 90 (.extract (.t 82) 1) .read 2,nK 16 (.move (.t 90)) .read 4])
 (oQ [oW 17 (.move (oI 0))]
 (.seq (oQ [oL 91 6 15,oL 92 2 8,oW 93 (.call (oF 40) [.t 91,.t 92]),oW 94 (.len 1 (.t 93)),oW 95 (.move (oI 0))]
 (.block 2 (.loop t8l1)))
 t8k0)))
def t8:DFunc:={ntmps:=174,results:=[.t 6],mode:=.pure,body :=
 (oQ [oW 4 (.box 32 2 (.t 1)),oW 6 (.move (oB false))]
 (oQ [oW 7 (.move (oI 1))]
 (.seq (oQ [oM 23 2]
 (.cond (.t 23) (.region [oW 7 (.move (oI (-1)))]) .skip))
 (oQ [oW 24 (.build [.int .i64 0,.int .i64 0] [(0,1,oI 20)]),oW 8 (.alloc 37 2 (.agg [.int .i64 0,.int .i64 0])),oS 2 8 24]
 (oQ [oW 25 (.buildSlice 3 1 (.int .i64 0) 2 [(0,oI 1),(1,oI 2)]),oW 26 (.call (oF 15) [oI 0,.t 25]),oW 9 (.alloc 29 6 (.agg [.int .i64 0,.nsl,.nsl,.nsl,.nsl,.nsl])),oS 6 9 26]
 (.seq (.draw [oRL 28 6 9,oRL 30 2 8,oRL 31 2 4,nK 32 (.call (oF 18) [.t 31]) .create 0,oRM 29 7,nK 33 (.call (oF 42) [.t 28,.t 29,.t 30,.t 32]) .write 1,nK 27 (.move (.t 33)) .read 2,nK 34 (.extract (.t 27) 0) .read 2,nK 10 (.alloc 29 6 (.agg [.int .i64 0,.nsl,.nsl,.nsl,.nsl,.nsl])) .create 0,⟨none,.store 6 (.t 10) (.t 34),none,.write,3,false⟩,nK 35 (.extract (.t 27) 1) .read 2,nK 11 (.move (.t 35)) .read 4])
 (oQ [oW 12 (.move (oI 0))]
 (.seq (oQ [oW 13 (.move (oI 0))]
 (.block 0 (.loop t8l0)))
 t8k1))))))))}
theorem c8:compFunc Tryz.prog Tryz.f8 .pure=some t8:=by kernel_rfl
def t15:DFunc:={ntmps:=14,results:=[(.cell 4 (some 6))],mode:=.pure,body :=
 (oQ [oW 4 (.alloc 29 6 (.agg [.int .i64 0,.nsl,.nsl,.nsl,.nsl,.nsl]))]
 (oQ [oM 6 1,oW 7 (.call (oF 64) [.t 6]),oM 5 7]
 (oQ [oM 8 5,oW 9 (.call (oF 65) [.t 8])]
 (oQ [oM 10 0,oM 11 5,oW 12 (.call (oF 66) [.t 11]),oW 13 (.build [.int .i64 0,.nsl,.nsl,.nsl,.nsl,.nsl] [(0,1,.t 10),(1,1,.t 12)]),oS 6 4 13]
 .ret))))}
theorem c15:compFunc Tryz.prog Tryz.f15 .pure=some t15:=by kernel_rfl
def t16:DFunc:={ntmps:=24,results:=[.t 6],mode:=.pure,body :=
 (oQ [oW 6 (.move (oI 0))]
 (oQ [oM 7 0,oM 8 2,oM 9 1,oW 10 (.arith .sub (.t 8) (.t 9)),oW 11 (.arith .add (.t 10) (oI 1)),oW 12 (.arith .rem (.t 7) (.t 11)),oM 0 12]
 (.seq (oQ [oM 13 0,oW 14 (.arith .lss (.t 13) (oI 0))]
 (.cond (.t 14) (.region [oM 15 0,oM 16 2,oW 17 (.arith .add (.t 15) (.t 16)),oM 18 1,oW 19 (.arith .sub (.t 17) (.t 18)),oW 20 (.arith .add (.t 19) (oI 1)),oM 0 20]) .skip))
 (oQ [oM 21 1,oM 22 0,oW 23 (.arith .add (.t 21) (.t 22)),oM 6 23]
 .ret))))}
theorem c16:compFunc Tryz.prog Tryz.f16 .pure=some t16:=by kernel_rfl
def t18l0:DCode :=
 (oQ [oW 9 (.arith .lss (.t 8) (.t 7))]
 (.seq (.cond (.t 9) .skip (.exit 0))
 (.seq (.block 1 (oQ [oM 10 8,oW 11 (.indexAddr 1 (.t 6) (.t 8)),oD 12 11,oM 4 10,oM 5 12]
 (oQ [oM 13 4,oA 14 0 1,oD 15 14,oW 16 (.len 1 (.t 15)),oW 17 (.arith .lss (.t 13) (.t 16)),oM 18 17,gA 19 0 1 18 true,gD 20 19 18 true,gM 21 4 18 true,gW 22 (.indexAddr 1 (.t 20) (.t 21)) 18 true,gD 23 22 18 true,gW 24 (.arith .and (.t 23) (oI 1)) 18 true,gW 25 (.arith .eql (.t 24) (oI 1)) 18 true,oW 26 (.pick (.t 18) (.t 25) (oB false)),oM 27 26,gM 28 3 27 true,gW 29 (.len 1 (.t 28)) 27 true,gW 30 (.arith .lss (.t 29) (oI 5)) 27 true,oW 31 (.pick (.t 27) (.t 30) (oB false))]
 (.cond (.t 31) (.region [oM 32 3,oM 33 5,oA 34 1 1,oD 35 34,oM 36 4,oW 37 (.call (oF 69) [.t 35,.t 36]),oW 38 (.call (oF 68) [.t 33,.t 37]),oW 39 (.buildSlice 62 5 (.agg [.str [],.int .i64 0,.int .i64 0,.int .i64 0,.str []]) 1 [(0,.t 38)]),oW 40 (.append 62 5 56 (.t 32) (.t 39)),oM 3 40]) .skip))))
 (.region [oW 41 (.arith .add (.t 8) (oI 1)),oM 8 41]))))
def t18k0:DCode :=
 (oQ [oM 42 3,oM 2 42]
 .ret)
def t18:DFunc:={ntmps:=43,results:=[.t 2],mode:=.pure,body :=
 (oQ [oW 1 (.box 32 2 (.t 0)),oW 2 (.move (.c .nsl))]
 (oQ [oW 3 (.move (.c .nsl))]
 (.seq (oQ [oW 6 (.call (oF 67) []),oW 7 (.len 1 (.t 6)),oW 8 (.move (oI 0))]
 (.block 0 (.loop t18l0)))
 t18k0)))}
theorem c18:compFunc Tryz.prog Tryz.f18 .pure=some t18:=by kernel_rfl
def t19:DFunc:={ntmps:=44,results:=[(.cell 4 (some 6)),.t 5],mode:=.frz,body :=
 (oQ [oW 2 (.box 29 6 (.t 0)),oW 3 (.box 42 4 (.t 1)),oW 4 (.alloc 29 6 (.agg [.int .i64 0,.nsl,.nsl,.nsl,.nsl,.nsl])),oW 5 (.move (oB false))]
 (oQ [oL 10 6 2,oW 11 (.call (oF 70) [.t 10]),oS 6 2 11]
 (oQ [oL 13 6 2,oA 14 0 3,oL 15 2 14,oW 16 (.call (oF 71) [.t 13,.t 15]),oM 12 16,oX 17 12 0,oX 18 12 1,oM 6 17,oM 7 18]
 (.seq (oQ [oM 19 7]
 (.cond (.t 19) (oQ [oL 20 6 2,oS 6 4 20,oW 5 (.move (oB false))]
 .ret) .skip))
 (oQ [oL 22 6 2,oA 23 0 3,oL 24 2 23,oW 25 (.call (oF 72) [.t 22,.t 24]),oM 21 25,oX 26 21 0,oX 27 21 1,oM 8 26,oM 9 27]
 (oQ [oA 28 2 2,oD 29 28,oM 30 8,oL 31 4 3,oW 32 (.buildSlice 42 4 (.agg [.int .i64 0,.int .i64 0,.nsl,.int .i64 0]) 1 [(0,.t 31)]),oW 33 (.call (oF 73) [.t 29,.t 30,.t 32]),oA 34 2 2,oS 1 34 33]
 (oQ [oA 35 3 2,oD 36 35,oM 37 6,oA 38 0 3,oL 39 2 38,oW 40 (.buildSlice 37 2 (.agg [.int .i64 0,.int .i64 0]) 1 [(0,.t 39)]),oW 41 (.call (oF 74) [.t 36,.t 37,.t 40]),oA 42 3 2,oS 1 42 41]
 (oQ [oL 43 6 2,oS 6 4 43,oW 5 (.move (oB true))]
 .ret))))))))}
theorem c19:compFunc Tryz.prog Tryz.f19 .frz=some t19:=by kernel_rfl
def t21:DFunc:={ntmps:=44,results:=[(.cell 6 (some 6)),.t 7],mode:=.frz,body :=
 (oQ [oW 3 (.box 29 6 (.t 0)),oW 4 (.box 37 2 (.t 1)),oW 6 (.alloc 29 6 (.agg [.int .i64 0,.nsl,.nsl,.nsl,.nsl,.nsl])),oW 7 (.move (oB false))]
 (oQ [oL 10 6 3,oW 11 (.call (oF 70) [.t 10]),oS 6 3 11]
 (oQ [oL 13 6 3,oL 14 2 4,oW 15 (.call (oF 72) [.t 13,.t 14]),oM 12 15,oX 16 12 0,oX 17 12 1,oM 8 16,oM 9 17]
 (.seq (oQ [oM 18 9,oW 19 (.un .not (.t 18)),oM 20 19,gA 21 2 3 20 false,gD 22 21 20 false,gM 23 8 20 false,gW 24 (.indexAddr 4 (.t 22) (.t 23)) 20 false,gA 25 3 24 20 false,gD 26 25 20 false,gM 27 2 20 false,gW 28 (.arith .neq (.t 26) (.t 27)) 20 false,oW 29 (.pick (.t 20) (oB true) (.t 28))]
 (.cond (.t 29) (oQ [oL 30 6 3,oS 6 6 30,oW 7 (.move (oB false))]
 .ret) .skip))
 (oQ [oA 31 2 3,oD 32 31,oM 33 8,oM 34 8,oW 35 (.arith .add (.t 34) (oI 1)),oW 36 (.call (oF 77) [.t 32,.t 33,.t 35]),oA 37 2 3,oS 1 37 36]
 (oQ [oA 38 4 3,oD 39 38,oW 40 (.makeFunc 79 [.t 4]),oW 41 (.call (oF 78) [.t 39,.t 40]),oA 42 4 3,oS 1 42 41]
 (oQ [oL 43 6 3,oS 6 6 43,oW 7 (.move (oB true))]
 .ret)))))))}
theorem c21:compFunc Tryz.prog Tryz.f21 .frz=some t21:=by kernel_rfl
def t23:DFunc:={ntmps:=22,results:=[(.cell 4 (some 4)),.t 5],mode:=.pure,body :=
 (oQ [oW 2 (.box 29 6 (.t 0)),oW 3 (.box 37 2 (.t 1)),oW 4 (.alloc 42 4 (.agg [.int .i64 0,.int .i64 0,.nsl,.int .i64 0])),oW 5 (.move (oB false))]
 (oQ [oL 9 6 2,oL 10 2 3,oW 11 (.call (oF 72) [.t 9,.t 10]),oM 8 11,oX 12 8 0,oX 13 8 1,oM 6 12,oM 7 13]
 (.seq (oQ [oM 14 7,oW 15 (.un .not (.t 14))]
 (.cond (.t 15) (oQ [oW 16 (.build [.int .i64 0,.int .i64 0,.nsl,.int .i64 0] []),oS 4 4 16,oW 5 (.move (oB false))]
 .ret) .skip))
 (oQ [oA 17 2 2,oD 18 17,oM 19 6,oW 20 (.indexAddr 4 (.t 18) (.t 19)),oL 21 4 20,oS 4 4 21,oW 5 (.move (oB true))]
 .ret))))}
theorem c23:compFunc Tryz.prog Tryz.f23 .pure=some t23:=by kernel_rfl
def t24l0:DCode :=
 (oQ [oW 11 (.arith .lss (.t 10) (.t 9))]
 (.seq (.cond (.t 11) .skip (.exit 0))
 (.seq (.block 1 (oQ [oM 12 10,oW 13 (.indexAddr 4 (.t 8) (.t 10)),oL 14 4 13,oW 6 (.alloc 42 4 (.agg [.int .i64 0,.int .i64 0,.nsl,.int .i64 0])),oM 5 12,oS 4 6 14]
 (oQ [oA 15 0 6,oL 16 2 15,oL 17 2 3,oW 18 (.eqa false [1,1] (.t 16) (.t 17))]
 (.cond (.t 18) (oQ [oM 19 5,oM 4 19]
 .ret) .skip))))
 (.region [oW 20 (.arith .add (.t 10) (oI 1)),oM 10 20]))))
def t24k0:DCode :=
 (oQ [oW 4 (.move (oI (-1)))]
 .ret)
def t24:DFunc:={ntmps:=21,results:=[.t 4],mode:=.pure,body :=
 (oQ [oW 2 (.box 29 6 (.t 0)),oW 3 (.box 37 2 (.t 1)),oW 4 (.move (oI 0))]
 (.seq (oQ [oA 7 2 2,oD 8 7,oW 9 (.len 1 (.t 8)),oW 10 (.move (oI 0))]
 (.block 0 (.loop t24l0)))
 t24k0))}
theorem c24:compFunc Tryz.prog Tryz.f24 .pure=some t24:=by kernel_rfl
def t31:DFunc:={ntmps:=73,results:=[(.cell 4 (some 6)),.t 5],mode:=.frz,body :=
 (oQ [oW 2 (.box 29 6 (.t 0)),oW 3 (.box 58 7 (.t 1)),oW 4 (.alloc 29 6 (.agg [.int .i64 0,.nsl,.nsl,.nsl,.nsl,.nsl])),oW 5 (.move (oB false))]
 (oQ [oA 11 4 2,oD 12 11,oW 13 (.call (oF 112) [.t 12]),oA 14 4 2,oS 1 14 13]
 (oQ [oL 16 6 2,oA 17 0 3,oL 18 2 17,oW 19 (.call (oF 23) [.t 16,.t 18]),oM 15 19,oX 20 15 0,oX 21 15 1,oW 6 (.alloc 42 4 (.agg [.int .i64 0,.int .i64 0,.nsl,.int .i64 0])),oS 4 6 20,oM 7 21]
 (oQ [oL 23 6 2,oA 24 0 3,oL 25 2 24,oA 26 2 3,oL 27 2 26,oW 28 (.call (oF 113) [.t 23,.t 25,.t 27]),oM 22 28,oX 29 22 0,oX 30 22 1,oM 8 29,oM 9 30]
 (oQ [oA 31 3 6,oD 32 31,oW 33 (.arith .eql (.t 32) (oI (-1))),oM 10 33]
 (.seq (oQ [oM 34 7,oW 35 (.un .not (.t 34)),oM 36 35,gM 37 9 36 false,oW 38 (.pick (.t 36) (oB true) (.t 37)),oM 39 38,gA 40 5 3 39 false,gD 41 40 39 false,gA 42 3 6 39 false,gD 43 42 39 false,gW 44 (.arith .eql (.t 41) (.t 43)) 39 false,gM 45 44 39 false,gM 46 10 45 true,gW 47 (.un .not (.t 46)) 45 true,gW 48 (.pick (.t 45) (.t 47) (oB false)) 39 false,oW 49 (.pick (.t 39) (oB true) (.t 48))]
 (.cond (.t 49) (oQ [oL 50 6 2,oS 6 4 50,oW 5 (.move (oB false))]
 .ret) .skip))
 (oQ [oM 51 10,oW 52 (.un .not (.t 51)),oM 53 52,gL 54 6 2 53 true,gA 55 0 3 53 true,gL 56 2 55 53 true,gA 57 4 3 53 true,gD 58 57 53 true,gW 59 (.call (oF 35) [.t 54,.t 56,.t 58]) 53 true,gW 60 (.un .not (.t 59)) 53 true,oW 61 (.pick (.t 53) (.t 60) (oB false)),oA 62 6 3,oS 1 62 61]
 (oQ [oA 63 4 2,oD 64 63,oM 65 8,oL 66 7 3,oW 67 (.buildSlice 58 7 (.agg [.int .i64 0,.int .i64 0,.int .i64 0,.int .i64 0,.nsl,.int .i64 0,.bool false]) 1 [(0,.t 66)]),oW 68 (.call (oF 114) [.t 64,.t 65,.t 67]),oA 69 4 2,oS 1 69 68]
 (.seq (.draw [⟨(some 70),.load (some 6) (.t 2),none,.read,0,true⟩,oRA 71 6 3,oRD 72 71,⟨none,.store 6 (.t 4) (.t 70),none,.create,0,false⟩,nK 5 (.move (.t 72)) .read 1])
 .ret)))))))))}
theorem c31:compFunc Tryz.prog Tryz.f31 .frz=some t31:=by kernel_rfl
def t32:DFunc:={ntmps:=25,results:=[(.cell 6 (some 7)),.t 7],mode:=.pure,body :=
 (oQ [oW 3 (.box 29 6 (.t 0)),oW 4 (.box 37 2 (.t 1)),oW 5 (.box 37 2 (.t 2)),oW 6 (.alloc 58 7 (.agg [.int .i64 0,.int .i64 0,.int .i64 0,.int .i64 0,.nsl,.int .i64 0,.bool false])),oW 7 (.move (oB false))]
 (oQ [oL 11 6 3,oL 12 2 4,oL 13 2 5,oW 14 (.call (oF 113) [.t 11,.t 12,.t 13]),oM 10 14,oX 15 10 0,oX 16 10 1,oM 8 15,oM 9 16]
 (.seq (oQ [oM 17 9,oW 18 (.un .not (.t 17))]
 (.cond (.t 18) (oQ [oW 19 (.build [.int .i64 0,.int .i64 0,.int .i64 0,.int .i64 0,.nsl,.int .i64 0,.bool false] []),oS 7 6 19,oW 7 (.move (oB false))]
 .ret) .skip))
 (oQ [oA 20 4 3,oD 21 20,oM 22 8,oW 23 (.indexAddr 7 (.t 21) (.t 22)),oL 24 7 23,oS 7 6 24,oW 7 (.move (oB true))]
 .ret))))}
theorem c32:compFunc Tryz.prog Tryz.f32 .pure=some t32:=by kernel_rfl
def t35:DFunc:={ntmps:=12,results:=[.t 6],mode:=.pure,body :=
 (oQ [oW 3 (.box 29 6 (.t 0)),oW 4 (.box 37 2 (.t 1)),oW 5 (.box 39 1 (.t 2)),oW 6 (.move (oB false))]
 (oQ [oL 7 6 3,oL 8 2 4,oW 9 (.call (oF 40) [.t 7,.t 8]),oW 10 (.makeFunc 117 [.t 5]),oW 11 (.call (oF 106) [.t 9,.t 10]),oM 6 11]
 .ret))}
theorem c35:compFunc Tryz.prog Tryz.f35 .pure=some t35:=by kernel_rfl
def t36l0:DCode :=
 (oQ [oW 13 (.arith .lss (.t 12) (.t 11))]
 (.seq (.cond (.t 13) .skip (.exit 0))
 (.seq (.block 1 (oQ [oW 14 (.indexAddr 7 (.t 10) (.t 12)),oL 15 7 14,oW 8 (.alloc 58 7 (.agg [.int .i64 0,.int .i64 0,.int .i64 0,.int .i64 0,.nsl,.int .i64 0,.bool false])),oS 7 8 15]
 (oQ [oA 16 0 8,oL 17 2 16,oL 18 2 4,oW 19 (.eqa false [1,1] (.t 17) (.t 18)),oM 20 19,gA 21 6 8 20 true,gD 22 21 20 true,oW 23 (.pick (.t 20) (.t 22) (oB false)),oM 24 23,gA 25 4 8 24 true,gD 26 25 24 true,gM 27 2 24 true,gW 28 (.call (oF 118) [.t 26,.t 27]) 24 true,oW 29 (.pick (.t 24) (.t 28) (oB false))]
 (.cond (.t 29) (oQ [oW 6 (.move (oB true))]
 .ret) .skip))))
 (.region [oW 30 (.arith .add (.t 12) (oI 1)),oM 12 30]))))
def t36k0:DCode :=
 (oQ [oW 6 (.move (oB false))]
 .ret)
def t36:DFunc:={ntmps:=31,results:=[.t 6],mode:=.pure,body :=
 (oQ [oW 3 (.box 29 6 (.t 0)),oW 4 (.box 37 2 (.t 1)),oW 6 (.move (oB false))]
 (.seq (oQ [oA 9 4 3,oD 10 9,oW 11 (.len 1 (.t 10)),oW 12 (.move (oI 0))]
 (.block 0 (.loop t36l0)))
 t36k0))}
theorem c36:compFunc Tryz.prog Tryz.f36 .pure=some t36:=by kernel_rfl
def t37l0:DCode :=
 (.seq (.seq (.draw [oRA 58 4 2,oRD 59 58,oRM 57 7,oR 60 (.len 1 (.t 59)),oR 61 (.arith .lss (.t 57) (.t 60)),oRM 62 61,rA 63 4 2 62 true,rD 64 63 62 true,rM 65 7 62 true,rW 66 (.indexAddr 7 (.t 64) (.t 65)) 62 true,rA 67 0 66 62 true,rL 68 2 67 62 true,rA 69 0 3 62 true,rL 70 2 69 62 true,gW 71 (.call (oF 76) [.t 68,.t 70]) 62 true,⟨(some 72),.move (.t 71),(some (62,true)),.read,1,false⟩,⟨(some 73),.fieldAddr 4 (.t 2),(some (72,false)),.read,1,false⟩,⟨(some 74),.load none (.t 73),(some (72,false)),.read,1,false⟩,⟨(some 75),.move (.t 7),(some (72,false)),.read,1,false⟩,⟨(some 76),.indexAddr 7 (.t 74) (.t 75),(some (72,false)),.read,1,false⟩,⟨(some 77),.fieldAddr 0 (.t 76),(some (72,false)),.read,1,false⟩,⟨(some 78),.load (some 2) (.t 77),(some (72,false)),.read,1,false⟩,⟨(some 79),.fieldAddr 0 (.t 3),(some (72,false)),.read,1,false⟩,⟨(some 80),.load (some 2) (.t 79),(some (72,false)),.read,1,false⟩,⟨(some 81),.eqa false [1,1] (.t 78) (.t 80),(some (72,false)),.read,1,false⟩,⟨(some 82),.move (.t 81),(some (72,false)),.read,1,false⟩,⟨(some 83),.fieldAddr 4 (.t 2),(some (82,true)),.read,1,false⟩,⟨(some 84),.load none (.t 83),(some (82,true)),.read,1,false⟩,⟨(some 85),.move (.t 7),(some (82,true)),.read,1,false⟩,⟨(some 86),.indexAddr 7 (.t 84) (.t 85),(some (82,true)),.read,1,false⟩,⟨(some 87),.fieldAddr 2 (.t 86),(some (82,true)),.read,1,false⟩,⟨(some 88),.load (some 2) (.t 87),(some (82,true)),.read,1,false⟩,⟨(some 89),.fieldAddr 2 (.t 3),(some (82,true)),.read,1,false⟩,⟨(some 90),.load (some 2) (.t 89),(some (82,true)),.read,1,false⟩,⟨(some 91),.call (oF 76) [.t 88,.t 90],(some (82,true)),.write,1,false⟩,⟨(some 92),.pick (.t 82) (.t 91) (oB false),(some (72,false)),.read,2,false⟩,⟨(some 93),.pick (.t 72) (oB true) (.t 92),(some (62,true)),.read,2,false⟩,nK 94 (.pick (.t 62) (.t 93) (oB false)) .read 2])
 (.cond (.t 94) .skip (.exit 0)))
 (.block 1 (.region [oM 95 7,oW 96 (.arith .add (.t 95) (oI 1)),oM 7 96])))
def t37k0:DCode :=
 (.seq (.draw [oRA 98 4 2,oRD 99 98,oRM 100 7,oR 101 (.sliceSl 7 (.t 99) none (some (.t 100))),nK 97 (.buildSlice 58 7 (.agg [.int .i64 0,.int .i64 0,.int .i64 0,.int .i64 0,.nsl,.int .i64 0,.bool false]) 0 []) .create 0,nK 102 (.append 58 7 72 (.t 97) (.t 101)) .create 0,oRL 103 7 3,nK 104 (.buildSlice 58 7 (.agg [.int .i64 0,.int .i64 0,.int .i64 0,.int .i64 0,.nsl,.int .i64 0,.bool false]) 1 [(0,.t 103)]) .create 0,nK 105 (.append 58 7 72 (.t 102) (.t 104)) .create 0,oRA 106 4 2,oRD 107 106,oRM 108 7,oR 109 (.sliceSl 7 (.t 107) (some (.t 108)) none),nK 110 (.append 58 7 72 (.t 105) (.t 109)) .write 4,nK 111 (.fieldAddr 4 (.t 2)) .read 5,⟨none,.store 1 (.t 111) (.t 110),none,.write,5,false⟩])
 (.seq (.draw [⟨(some 112),.load (some 6) (.t 2),none,.read,0,true⟩,oRA 113 6 3,oRD 114 113,⟨none,.store 6 (.t 4) (.t 112),none,.create,0,false⟩,nK 5 (.move (.t 114)) .read 1])
 .ret))
def t37:DFunc:={ntmps:=115,results:=[(.cell 4 (some 6)),.t 5],mode:=.frz,body :=
 (oQ [oW 2 (.box 29 6 (.t 0)),oW 3 (.box 58 7 (.t 1)),oW 4 (.alloc 29 6 (.agg [.int .i64 0,.nsl,.nsl,.nsl,.nsl,.nsl])),oW 5 (.move (oB false))]
 (oQ [oL 8 6 2,oA 9 0 3,oL 10 2 9,oW 11 (.call (oF 24) [.t 8,.t 10]),oM 6 11]
 (.seq (.seq (.draw [oRM 12 6,oR 13 (.arith .lss (.t 12) (oI 0)),oRM 14 13,rL 15 6 2 14 false,rA 16 0 3 14 false,rL 17 2 16 14 false,rA 18 2 3 14 false,rL 19 2 18 14 false,gW 20 (.call (oF 119) [.t 15,.t 17,.t 19]) 14 false,⟨(some 21),.arith .geq (.t 20) (oI 0),(some (14,false)),.read,1,false⟩,nK 22 (.pick (.t 14) (oB true) (.t 21)) .read 1,nK 23 (.move (.t 22)) .read 1,⟨(some 24),.fieldAddr 5 (.t 3),(some (23,false)),.read,1,false⟩,⟨(some 25),.load none (.t 24),(some (23,false)),.read,1,false⟩,⟨(some 26),.arith .neq (.t 25) (oI (-1)),(some (23,false)),.read,1,false⟩,⟨(some 27),.move (.t 26),(some (23,false)),.read,1,false⟩,⟨(some 28),.fieldAddr 5 (.t 3),(some (27,true)),.read,1,false⟩,⟨(some 29),.load none (.t 28),(some (27,true)),.read,1,false⟩,⟨(some 30),.fieldAddr 2 (.t 2),(some (27,true)),.read,1,false⟩,⟨(some 31),.load none (.t 30),(some (27,true)),.read,1,false⟩,⟨(some 32),.move (.t 6),(some (27,true)),.read,1,false⟩,⟨(some 33),.indexAddr 4 (.t 31) (.t 32),(some (27,true)),.read,1,false⟩,⟨(some 34),.fieldAddr 3 (.t 33),(some (27,true)),.read,1,false⟩,⟨(some 35),.load none (.t 34),(some (27,true)),.read,1,false⟩,⟨(some 36),.arith .eql (.t 29) (.t 35),(some (27,true)),.read,1,false⟩,⟨(some 37),.pick (.t 27) (.t 36) (oB false),(some (23,false)),.read,1,false⟩,nK 38 (.pick (.t 23) (oB true) (.t 37)) .read 1])
 (.cond (.t 38) (oQ [oL 39 6 2,oS 6 4 39,oW 5 (.move (oB false))]
 .ret) .skip))
 (oQ [oA 40 2 2,oD 41 40,oM 42 6,oW 43 (.indexAddr 4 (.t 41) (.t 42)),oA 44 3 43,oD 45 44,oW 46 (.arith .neq (.t 45) (oI (-1))),oM 47 46,gL 48 6 2 47 true,gA 49 0 3 47 true,gL 50 2 49 47 true,gA 51 4 3 47 true,gD 52 51 47 true,gW 53 (.call (oF 36) [.t 48,.t 50,.t 52]) 47 true,gW 54 (.un .not (.t 53)) 47 true,oW 55 (.pick (.t 47) (.t 54) (oB false)),oA 56 6 3,oS 1 56 55]
 (oQ [oW 7 (.move (oI 0))]
 (.seq (.block 0 (.loop t37l0))
 t37k0))))))}
theorem c37:compFunc Tryz.prog Tryz.f37 .frz=some t37:=by kernel_rfl
def t40l0:DCode :=
 (oQ [oW 12 (.arith .lss (.t 11) (.t 10))]
 (.seq (.cond (.t 12) .skip (.exit 0))
 (.seq (.block 1 (oQ [oW 13 (.indexAddr 7 (.t 9) (.t 11)),oL 14 7 13,oW 7 (.alloc 58 7 (.agg [.int .i64 0,.int .i64 0,.int .i64 0,.int .i64 0,.nsl,.int .i64 0,.bool false])),oS 7 7 14]
 (oQ [oA 15 0 7,oL 16 2 15,oL 17 2 3,oW 18 (.eqa false [1,1] (.t 16) (.t 17))]
 (.cond (.t 18) (.region [oM 19 5,oL 20 7 7,oW 21 (.buildSlice 58 7 (.agg [.int .i64 0,.int .i64 0,.int .i64 0,.int .i64 0,.nsl,.int .i64 0,.bool false]) 1 [(0,.t 20)]),oW 22 (.append 58 7 72 (.t 19) (.t 21)),oM 5 22]) .skip))))
 (.region [oW 23 (.arith .add (.t 11) (oI 1)),oM 11 23]))))
def t40k0:DCode :=
 (oQ [oM 24 5,oM 4 24]
 .ret)
def t40:DFunc:={ntmps:=25,results:=[.t 4],mode:=.pure,body :=
 (oQ [oW 2 (.box 29 6 (.t 0)),oW 3 (.box 37 2 (.t 1)),oW 4 (.move (.c .nsl))]
 (oQ [oW 5 (.move (.c .nsl))]
 (.seq (oQ [oA 8 4 2,oD 9 8,oW 10 (.len 1 (.t 9)),oW 11 (.move (oI 0))]
 (.block 0 (.loop t40l0)))
 t40k0)))}
theorem c40:compFunc Tryz.prog Tryz.f40 .pure=some t40:=by kernel_rfl
def t41l0:DCode :=
 (oQ [oW 11 (.arith .lss (.t 10) (.t 9))]
 (.seq (.cond (.t 11) .skip (.exit 0))
 (.seq (.block 1 (oQ [oW 12 (.indexAddr 7 (.t 8) (.t 10)),oL 13 7 12,oW 4 (.alloc 58 7 (.agg [.int .i64 0,.int .i64 0,.int .i64 0,.int .i64 0,.nsl,.int .i64 0,.bool false])),oS 7 4 13]
 (oQ [oL 15 6 1,oA 16 0 4,oL 17 2 16,oW 18 (.call (oF 23) [.t 15,.t 17]),oM 14 18,oX 19 14 0,oX 20 14 1,oW 5 (.alloc 42 4 (.agg [.int .i64 0,.int .i64 0,.nsl,.int .i64 0])),oS 4 5 19,oM 6 20]
 (oQ [oA 21 6 4,oD 22 21,oW 23 (.un .not (.t 22)),oM 24 23,gA 25 3 5 24 true,gD 26 25 24 true,gW 27 (.arith .neq (.t 26) (oI (-1))) 24 true,oW 28 (.pick (.t 24) (.t 27) (oB false)),oM 29 28,gL 30 6 1 29 true,gA 31 0 4 29 true,gL 32 2 31 29 true,gA 33 4 4 29 true,gD 34 33 29 true,gW 35 (.call (oF 35) [.t 30,.t 32,.t 34]) 29 true,gW 36 (.un .not (.t 35)) 29 true,oW 37 (.pick (.t 29) (.t 36) (oB false))]
 (.cond (.t 37) (oQ [oW 2 (.move (oB false))]
 .ret) .skip)))))
 (.region [oW 38 (.arith .add (.t 10) (oI 1)),oM 10 38]))))
def t41k0:DCode :=
 (oQ [oW 2 (.move (oB true))]
 .ret)
def t41:DFunc:={ntmps:=39,results:=[.t 2],mode:=.pure,body :=
 (oQ [oW 1 (.box 29 6 (.t 0)),oW 2 (.move (oB false))]
 (.seq (oQ [oA 7 4 1,oD 8 7,oW 9 (.len 1 (.t 8)),oW 10 (.move (oI 0))]
 (.block 0 (.loop t41l0)))
 t41k0))}
theorem c41:compFunc Tryz.prog Tryz.f41 .pure=some t41:=by kernel_rfl
def t42l0:DCode :=
 (oQ [oW 39 (.arith .lss (.t 38) (.t 37))]
 (.seq (.cond (.t 39) .skip (.exit 0))
 (.seq (.block 1 (oQ [oW 40 (.indexAddr 3 (.t 36) (.t 38)),oL 41 3 40,oW 14 (.alloc 60 3 (.agg [.int .i64 0,.int .i64 0,.nsl])),oS 3 14 41]
 (.seq (oQ [oA 42 2 14,oD 43 42,oM 44 3,oW 45 (.call (oF 47) [.t 43,.t 44]),oW 46 (.un .not (.t 45))]
 (.cond (.t 46) (.exit 1) .skip))
 (oQ [oL 47 2 6,oA 48 0 14,oL 49 2 48,oA 50 2 14,oD 51 50,oW 52 (.build [.int .i64 0,.int .i64 0,.int .i64 0,.int .i64 0,.nsl,.int .i64 0,.bool false] [(0,2,.t 47),(2,2,.t 49),(4,1,.t 51),(5,1,(oI (-1)))]),oW 15 (.alloc 58 7 (.agg [.int .i64 0,.int .i64 0,.int .i64 0,.int .i64 0,.nsl,.int .i64 0,.bool false])),oS 7 15 52]
 (oQ [oW 16 (.move (oB false))]
 (oQ [oL 54 6 10,oL 55 7 15,oW 56 (.call (oF 31) [.t 54,.t 55]),oM 53 56,oX 57 53 0,oX 58 53 1,oS 6 10 57,oM 16 58]
 (oQ [oM 59 16]
 (.cond (.t 59) (.region [oM 60 12,oM 61 1,oL 62 7 15,oW 63 (.call (oF 120) [.t 62]),oW 64 (.build [.int .i64 0,.int .i64 0,.int .i64 0,.int .i64 0,.int .i64 0,.int .i64 0,.nsl,.nsl] [(0,1,.t 61),(1,7,.t 63)]),oW 65 (.buildSlice 86 8 (.agg [.int .i64 0,.int .i64 0,.int .i64 0,.int .i64 0,.int .i64 0,.int .i64 0,.nsl,.nsl]) 1 [(0,.t 64)]),oW 66 (.append 86 8 96 (.t 60) (.t 65)),oM 12 66]) .skip))))))))
 (.region [oW 67 (.arith .add (.t 38) (oI 1)),oM 38 67]))))
def t42k0:DCode :=
 (oQ [oL 68 6 10,oM 69 12,oS 6 8 68,oM 9 69]
 .ret)
def t42:DFunc:={ntmps:=70,results:=[(.cell 8 (some 6)),.t 9],mode:=.frz,body :=
 (oQ [oW 4 (.box 29 6 (.t 0)),oW 6 (.box 37 2 (.t 2)),oW 8 (.alloc 29 6 (.agg [.int .i64 0,.nsl,.nsl,.nsl,.nsl,.nsl])),oW 9 (.move (.c .nsl))]
 (oQ [oL 18 6 4,oL 19 2 6,oM 20 3,oM 21 1,oW 22 (.build [.int .i64 0,.int .i64 0,.nsl,.int .i64 0] [(0,2,.t 19),(2,1,.t 20),(3,1,.t 21)]),oW 23 (.call (oF 19) [.t 18,.t 22]),oM 17 23,oX 24 17 0,oX 25 17 1,oW 10 (.alloc 29 6 (.agg [.int .i64 0,.nsl,.nsl,.nsl,.nsl,.nsl])),oS 6 10 24,oM 11 25]
 (.seq (oQ [oM 26 11,oW 27 (.un .not (.t 26))]
 (.cond (.t 27) (oQ [oL 28 6 4,oS 6 8 28,oW 9 (.move (.c .nsl))]
 .ret) .skip))
 (oQ [oL 29 6 4,oM 30 1,oL 31 2 6,oM 32 3,oW 33 (.build [.int .i64 0,.int .i64 0,.int .i64 0,.int .i64 0,.int .i64 0,.nsl,.nsl] [(0,1,oI 1),(1,2,.t 31),(5,1,.t 32)]),oW 34 (.call (oF 49) [.t 29,.t 30,.t 33]),oM 12 34]
 (.seq (oQ [oA 35 5 4,oD 36 35,oW 37 (.len 1 (.t 36)),oW 38 (.move (oI 0))]
 (.block 0 (.loop t42l0)))
 t42k0)))))}
theorem c42:compFunc Tryz.prog Tryz.f42 .frz=some t42:=by kernel_rfl
def t43:DFunc:={ntmps:=26,results:=[(.cell 6 (some 6)),.t 7],mode:=.frz,body :=
 (oQ [oW 3 (.box 29 6 (.t 0)),oW 5 (.box 37 2 (.t 2)),oW 6 (.alloc 29 6 (.agg [.int .i64 0,.nsl,.nsl,.nsl,.nsl,.nsl])),oW 7 (.move (.c .nsl))]
 (oQ [oL 11 6 3,oL 12 2 5,oM 13 1,oW 14 (.call (oF 21) [.t 11,.t 12,.t 13]),oM 10 14,oX 15 10 0,oX 16 10 1,oW 8 (.alloc 29 6 (.agg [.int .i64 0,.nsl,.nsl,.nsl,.nsl,.nsl])),oS 6 8 15,oM 9 16]
 (.seq (oQ [oM 17 9,oW 18 (.un .not (.t 17))]
 (.cond (.t 18) (oQ [oL 19 6 3,oS 6 6 19,oW 7 (.move (.c .nsl))]
 .ret) .skip))
 (.seq (.draw [oRL 20 6 8,oRL 21 6 3,oRL 23 2 5,oRM 22 1,oR 24 (.build [.int .i64 0,.int .i64 0,.int .i64 0,.int .i64 0,.int .i64 0,.nsl,.nsl] [(0,1,oI 2),(1,2,.t 23)]),nK 25 (.call (oF 49) [.t 21,.t 22,.t 24]) .create 0,⟨none,.store 6 (.t 6) (.t 20),none,.write,1,false⟩,nK 7 (.move (.t 25)) .read 2])
 .ret))))}
theorem c43:compFunc Tryz.prog Tryz.f43 .frz=some t43:=by kernel_rfl
def t45:DFunc:={ntmps:=82,results:=[.t 0],mode:=.pure,body :=
 (oQ [oW 0 (.move (oB false))]
 (oQ [oW 8 (.buildSlice 3 1 (.int .i64 0) 2 [(0,oI 1),(1,oI 2)]),oW 9 (.call (oF 15) [oI 0,.t 8]),oW 1 (.alloc 29 6 (.agg [.int .i64 0,.nsl,.nsl,.nsl,.nsl,.nsl])),oS 6 1 9]
 (oQ [oW 10 (.build [.int .i64 0,.int .i64 0] [(0,1,oI 4)]),oW 11 (.build [.int .i64 0,.int .i64 0,.nsl] [(0,2,.t 10)]),oW 12 (.buildSlice 60 3 (.agg [.int .i64 0,.int .i64 0,.nsl]) 1 [(0,.t 11)]),oA 13 5 1,oS 1 13 12]
 (oQ [oL 15 6 1,oW 16 (.build [.int .i64 0,.int .i64 0] [(0,1,oI 3)]),oW 17 (.call (oF 42) [.t 15,oI 1,.t 16,.c .nsl]),oM 14 17,oX 18 14 0,oX 19 14 1,oW 2 (.alloc 29 6 (.agg [.int .i64 0,.nsl,.nsl,.nsl,.nsl,.nsl])),oS 6 2 18,oM 3 19]
 (oQ [oL 21 6 2,oW 22 (.build [.int .i64 0,.int .i64 0] [(0,1,oI 3)]),oW 23 (.call (oF 42) [.t 21,oI 2,.t 22,.c .nsl]),oM 20 23,oX 24 20 0,oX 25 20 1,oW 4 (.alloc 29 6 (.agg [.int .i64 0,.nsl,.nsl,.nsl,.nsl,.nsl])),oS 6 4 24,oM 5 25]
 (oQ [oL 27 6 2,oW 28 (.build [.int .i64 0,.int .i64 0] [(0,1,oI 3)]),oW 29 (.call (oF 43) [.t 27,oI 1,.t 28]),oM 26 29,oX 30 26 0,oX 31 26 1,oW 6 (.alloc 29 6 (.agg [.int .i64 0,.nsl,.nsl,.nsl,.nsl,.nsl])),oS 6 6 30,oM 7 31]
 (oQ [oM 32 3,oW 33 (.len 1 (.t 32)),oW 34 (.arith .eql (.t 33) (oI 2)),oM 35 34,gM 36 3 35 true,gW 37 (.indexAddr 8 (.t 36) (oI 0)) 35 true,gA 38 0 37 35 true,gD 39 38 35 true,gW 40 (.arith .eql (.t 39) (oI 2)) 35 true,oW 41 (.pick (.t 35) (.t 40) (oB false)),oM 42 41,gM 43 3 42 true,gW 44 (.indexAddr 8 (.t 43) (oI 0)) 42 true,gA 45 1 44 42 true,gA 46 0 45 42 true,gD 47 46 42 true,gW 48 (.arith .eql (.t 47) (oI 1)) 42 true,oW 49 (.pick (.t 42) (.t 48) (oB false)),oM 50 49,gM 51 3 50 true,gW 52 (.indexAddr 8 (.t 51) (oI 1)) 50 true,gA 53 0 52 50 true,gD 54 53 50 true,gW 55 (.arith .eql (.t 54) (oI 1)) 50 true,oW 56 (.pick (.t 50) (.t 55) (oB false)),oM 57 56,gM 58 3 57 true,gW 59 (.indexAddr 8 (.t 58) (oI 1)) 57 true,gA 60 1 59 57 true,gA 61 0 60 57 true,gD 62 61 57 true,gW 63 (.arith .eql (.t 62) (oI 3)) 57 true,oW 64 (.pick (.t 57) (.t 63) (oB false)),oM 65 64,gM 66 5 65 true,gW 67 (.len 1 (.t 66)) 65 true,gW 68 (.arith .eql (.t 67) (oI 0)) 65 true,oW 69 (.pick (.t 65) (.t 68) (oB false)),oM 70 69,gM 71 7 70 true,gW 72 (.len 1 (.t 71)) 70 true,gW 73 (.arith .eql (.t 72) (oI 1)) 70 true,oW 74 (.pick (.t 70) (.t 73) (oB false)),oM 75 74,gM 76 7 75 true,gW 77 (.indexAddr 8 (.t 76) (oI 0)) 75 true,gA 78 0 77 75 true,gD 79 78 75 true,gW 80 (.arith .eql (.t 79) (oI 2)) 75 true,oW 81 (.pick (.t 75) (.t 80) (oB false)),oM 0 81]
 .ret)))))))}
theorem c45:compFunc Tryz.prog Tryz.f45 .pure=some t45:=by kernel_rfl
def t46l0:DCode :=
 (.seq (.seq (.draw [oRA 15 5 3,oRD 16 15,oRM 14 8,oR 17 (.len 1 (.t 16)),oR 18 (.arith .lss (.t 14) (.t 17)),oRM 19 18,rA 20 5 3 19 true,rD 21 20 19 true,rM 22 8 19 true,rW 23 (.indexAddr 3 (.t 21) (.t 22)) 19 true,rA 24 0 23 19 true,rL 25 2 24 19 true,rL 26 2 4 19 true,gW 27 (.call (oF 76) [.t 25,.t 26]) 19 true,nK 28 (.pick (.t 19) (.t 27) (oB false)) .read 1])
 (.cond (.t 28) .skip (.exit 0)))
 (.block 1 (.region [oM 29 8,oW 30 (.arith .add (.t 29) (oI 1)),oM 8 30])))
def t46l1:DCode :=
 (oQ [oW 68 (.arith .lss (.t 67) (.t 66))]
 (.seq (.cond (.t 68) .skip (.exit 2))
 (.seq (.block 3 (oQ [oW 69 (.indexAddr 4 (.t 65) (.t 67)),oL 70 4 69,oW 11 (.alloc 42 4 (.agg [.int .i64 0,.int .i64 0,.nsl,.int .i64 0])),oS 4 11 70]
 (.seq (oQ [oM 71 2,oA 72 2 11,oD 73 72,oW 74 (.call (oF 121) [.t 71,.t 73]),oW 75 (.un .not (.t 74))]
 (.cond (.t 75) (.exit 3) .skip))
 (oQ [oA 76 0 11,oL 77 2 76,oL 78 2 4,oM 79 2,oW 80 (.build [.int .i64 0,.int .i64 0,.int .i64 0,.int .i64 0,.nsl,.int .i64 0,.bool false] [(0,2,.t 77),(2,2,.t 78),(4,1,.t 79),(5,1,(oI (-1)))]),oW 12 (.alloc 58 7 (.agg [.int .i64 0,.int .i64 0,.int .i64 0,.int .i64 0,.nsl,.int .i64 0,.bool false])),oS 7 12 80]
 (oQ [oW 13 (.move (oB false))]
 (oQ [oL 82 6 3,oL 83 7 12,oW 84 (.call (oF 37) [.t 82,.t 83]),oM 81 84,oX 85 81 0,oX 86 81 1,oS 6 3 85,oM 13 86]
 (oQ [oM 87 13]
 (.cond (.t 87) (.draw [oRA 89 3 11,oRD 90 89,oRL 91 7 12,nK 92 (.call (oF 122) [.t 91]) .create 0,oRM 88 9,nK 93 (.build [.int .i64 0,.int .i64 0,.int .i64 0,.int .i64 0,.int .i64 0,.int .i64 0,.nsl,.nsl] [(0,1,.t 90),(1,7,.t 92)]) .read 1,nK 94 (.buildSlice 86 8 (.agg [.int .i64 0,.int .i64 0,.int .i64 0,.int .i64 0,.int .i64 0,.int .i64 0,.nsl,.nsl]) 1 [(0,.t 93)]) .create 0,nK 95 (.append 86 8 96 (.t 88) (.t 94)) .write 2,nK 9 (.move (.t 95)) .read 3]) .skip))))))))
 (.region [oW 96 (.arith .add (.t 67) (oI 1)),oM 67 96]))))
def t46k0:DCode :=
 (oQ [oL 97 6 3,oM 98 9,oS 6 6 97,oM 7 98]
 .ret)
def t46k1:DCode :=
 (.seq (.seq (.draw [oRA 32 5 3,oRD 33 32,oRM 31 8,oR 34 (.len 1 (.t 33)),oR 35 (.arith .lss (.t 31) (.t 34)),oRM 36 35,rA 37 5 3 36 true,rD 38 37 36 true,rM 39 8 36 true,rW 40 (.indexAddr 3 (.t 38) (.t 39)) 36 true,rA 41 0 40 36 true,rL 42 2 41 36 true,rL 43 2 4 36 true,rW 44 (.eqa false [1,1] (.t 42) (.t 43)) 36 true,oR 45 (.pick (.t 36) (.t 44) (oB false))])
 (.cond (.t 45) (oQ [oL 46 6 3,oS 6 6 46,oW 7 (.move (.c .nsl))]
 .ret) .skip))
 (.seq (.draw [oRA 48 5 3,oRD 49 48,oRM 50 8,oR 51 (.sliceSl 3 (.t 49) none (some (.t 50))),nK 47 (.buildSlice 60 3 (.agg [.int .i64 0,.int .i64 0,.nsl]) 0 []) .create 0,nK 52 (.append 60 3 40 (.t 47) (.t 51)) .create 0,oRL 53 2 4,oRM 54 2,oR 55 (.build [.int .i64 0,.int .i64 0,.nsl] [(0,2,.t 53),(2,1,.t 54)]),nK 56 (.buildSlice 60 3 (.agg [.int .i64 0,.int .i64 0,.nsl]) 1 [(0,.t 55)]) .create 0,nK 57 (.append 60 3 40 (.t 52) (.t 56)) .create 0,oRA 58 5 3,oRD 59 58,oRM 60 8,oR 61 (.sliceSl 3 (.t 59) (some (.t 60)) none),nK 62 (.append 60 3 40 (.t 57) (.t 61)) .write 4,nK 63 (.fieldAddr 5 (.t 3)) .read 5,⟨none,.store 1 (.t 63) (.t 62),none,.write,5,false⟩])
 (oQ [oW 9 (.move (.c .nsl))]
 (.seq (oQ [oA 64 2 3,oD 65 64,oW 66 (.len 1 (.t 65)),oW 67 (.move (oI 0))]
 (.block 2 (.loop t46l1)))
 t46k0))))
def t46:DFunc:={ntmps:=99,results:=[(.cell 6 (some 6)),.t 7],mode:=.frz,body :=
 (oQ [oW 3 (.box 29 6 (.t 0)),oW 4 (.box 37 2 (.t 1)),oW 6 (.alloc 29 6 (.agg [.int .i64 0,.nsl,.nsl,.nsl,.nsl,.nsl])),oW 7 (.move (.c .nsl))]
 (oQ [oW 8 (.move (oI 0))]
 (.seq (.block 0 (.loop t46l0))
 t46k1)))}
theorem c46:compFunc Tryz.prog Tryz.f46 .frz=some t46:=by kernel_rfl
def t47:DFunc:={ntmps:=14,results:=[.t 4],mode:=.pure,body :=
 (oQ [oW 4 (.move (oB false))]
 (oQ [oM 8 0,oM 9 1,oW 10 (.call (oF 123) [.t 8,.t 9]),oM 7 10,oX 11 7 0,oX 12 7 1,oM 5 11,oM 6 12]
 (oQ [oM 13 6,oM 4 13]
 .ret)))}
theorem c47:compFunc Tryz.prog Tryz.f47 .pure=some t47:=by kernel_rfl
def t48l0:DCode :=
 (.seq (oQ [oM 11 5,oM 12 0,oW 13 (.len 1 (.t 12)),oW 14 (.arith .lss (.t 11) (.t 13))]
 (.cond (.t 14) .skip (.exit 0)))
 (.seq (.block 1 (.seq (.draw [oRM 17 0,oRM 18 5,oR 19 (.indexAddr 5 (.t 17) (.t 18)),oRL 20 5 19,oRM 21 1,oRM 22 5,oR 23 (.indexAddr 5 (.t 21) (.t 22)),oRL 24 5 23,oR 25 (.eqa true [2,1,1,1,2] (.t 20) (.t 24))])
 (.cond (.t 25) (oQ [oW 4 (.move (oB false))]
 .ret) .skip)))
 (.region [oM 15 5,oW 16 (.arith .add (.t 15) (oI 1)),oM 5 16])))
def t48k0:DCode :=
 (oQ [oW 4 (.move (oB true))]
 .ret)
def t48:DFunc:={ntmps:=26,results:=[.t 4],mode:=.pure,body :=
 (oQ [oW 4 (.move (oB false))]
 (.seq (oQ [oM 6 0,oW 7 (.len 1 (.t 6)),oM 8 1,oW 9 (.len 1 (.t 8)),oW 10 (.arith .neq (.t 7) (.t 9))]
 (.cond (.t 10) (oQ [oW 4 (.move (oB false))]
 .ret) .skip))
 (.seq (oQ [oW 5 (.move (oI 0))]
 (.block 0 (.loop t48l0)))
 t48k0)))}
theorem c48:compFunc Tryz.prog Tryz.f48 .pure=some t48:=by kernel_rfl
def t49l0:DCode :=
 (oQ [oW 14 (.arith .lss (.t 13) (.t 12))]
 (.seq (.cond (.t 14) .skip (.exit 0))
 (.seq (.block 1 (oQ [oW 15 (.indexAddr 1 (.t 11) (.t 13)),oD 16 15,oM 9 16]
 (oQ [oM 17 9,oM 18 1,oW 19 (.arith .neq (.t 17) (.t 18))]
 (.cond (.t 19) (.region [oM 20 7,oM 21 9,oL 22 7 5,oW 23 (.build [.int .i64 0,.int .i64 0,.int .i64 0,.int .i64 0,.int .i64 0,.int .i64 0,.nsl,.nsl] [(0,1,.t 21),(1,7,.t 22)]),oW 24 (.buildSlice 86 8 (.agg [.int .i64 0,.int .i64 0,.int .i64 0,.int .i64 0,.int .i64 0,.int .i64 0,.nsl,.nsl]) 1 [(0,.t 23)]),oW 25 (.append 86 8 96 (.t 20) (.t 24)),oM 7 25]) .skip))))
 (.region [oW 26 (.arith .add (.t 13) (oI 1)),oM 13 26]))))
def t49k0:DCode :=
 (oQ [oM 27 7,oM 6 27]
 .ret)
def t49:DFunc:={ntmps:=28,results:=[.t 6],mode:=.full,body :=
 (oQ [oW 3 (.box 29 6 (.t 0)),oW 5 (.box 84 7 (.t 2)),oW 6 (.move (.c .nsl))]
 (oQ [oW 7 (.move (.c .nsl))]
 (.seq (oQ [oA 10 1 3,oD 11 10,oW 12 (.len 1 (.t 11)),oW 13 (.move (oI 0))]
 (.block 0 (.loop t49l0)))
 t49k0)))}
theorem c49:compFunc Tryz.prog Tryz.f49 .full=some t49:=by kernel_rfl
def t54l0:DCode :=
 (oQ [oW 16 (.arith .lss (.t 15) (.t 14))]
 (.seq (.cond (.t 16) .skip (.exit 0))
 (.seq (.block 1 (oQ [oW 17 (.indexAddr 5 (.t 13) (.t 15)),oL 18 5 17,oW 7 (.alloc 62 5 (.agg [.str [],.int .i64 0,.int .i64 0,.int .i64 0,.str []])),oS 5 7 18]
 (.region [oM 19 5,oA 20 0 7,oD 21 20,oL 22 5 7,oZ (.mapUpdate (.prim 2) (.t 19) (.t 21) (.t 22))])))
 (.region [oW 23 (.arith .add (.t 15) (oI 1)),oM 15 23]))))
def t54l1:DCode :=
 (oQ [oW 27 (.arith .lss (.t 26) (.t 25))]
 (.seq (.cond (.t 27) .skip (.exit 2))
 (.seq (.block 3 (oQ [oW 28 (.indexAddr 5 (.t 24) (.t 26)),oL 29 5 28,oW 9 (.alloc 62 5 (.agg [.str [],.int .i64 0,.int .i64 0,.int .i64 0,.str []])),oS 5 9 29]
 (oQ [oM 31 5,oA 32 0 9,oD 33 32,oW 34 (.lookup (.prim 2) (.agg [.str [],.int .i64 0,.int .i64 0,.int .i64 0,.str []]) true (.t 31) (.t 33)),oM 30 34,oX 35 30 0,oX 36 30 1,oW 10 (.alloc 62 5 (.agg [.str [],.int .i64 0,.int .i64 0,.int .i64 0,.str []])),oS 5 10 35,oM 11 36]
 (oQ [oM 37 11,oW 38 (.un .not (.t 37)),oM 39 38,gL 40 5 9 39 false,gL 41 5 10 39 false,gW 42 (.call (oF 130) [.t 40,.t 41]) 39 false,gW 43 (.un .not (.t 42)) 39 false,oW 44 (.pick (.t 39) (oB true) (.t 43))]
 (.cond (.t 44) (oQ [oW 4 (.move (oB false))]
 .ret) .skip)))))
 (.region [oW 45 (.arith .add (.t 26) (oI 1)),oM 26 45]))))
def t54k0:DCode :=
 (oQ [oW 4 (.move (oB true))]
 .ret)
def t54k1:DCode :=
 (.seq (oQ [oM 24 0,oW 25 (.len 1 (.t 24)),oW 26 (.move (oI 0))]
 (.block 2 (.loop t54l1)))
 t54k0)
def t54:DFunc:={ntmps:=46,results:=[.t 4],mode:=.pure,body :=
 (oQ [oW 4 (.move (oB false))]
 (oQ [oW 12 (.makeMap),oM 5 12]
 (.seq (oQ [oM 13 1,oW 14 (.len 1 (.t 13)),oW 15 (.move (oI 0))]
 (.block 0 (.loop t54l0)))
 t54k1)))}
theorem c54:compFunc Tryz.prog Tryz.f54 .pure=some t54:=by kernel_rfl
def t56:DFunc:={ntmps:=9,results:=[.t 4],mode:=.pure,body :=
 (oQ [oW 2 (.box 37 2 (.t 0)),oW 3 (.box 37 2 (.t 1)),oW 4 (.move (oB false))]
 (oQ [oL 5 2 2,oL 6 2 3,oW 7 (.call (oF 101) [.t 5,.t 6]),oW 8 (.arith .lss (.t 7) (oI 0)),oM 4 8]
 .ret))}
theorem c56:compFunc Tryz.prog Tryz.f56 .pure=some t56:=by kernel_rfl
def t65:DFunc:={ntmps:=11,results:=[],mode:=.full,body :=
 (oQ [oM 3 0,oW 4 (.len 1 (.t 3)),oM 2 4]
 (.region [oM 5 0,oM 6 2,oM 7 2,oW 8 (.conv .u64 (.t 7)),oW 9 (.call (oF 135) [.t 8]),oW 10 (.call (oF 134) [.t 5,oI 0,.t 6,.t 9])]))}
theorem c65:compFunc Tryz.prog Tryz.f65 .full=some t65:=by kernel_rfl
def t66l0:DCode :=
 (.seq (oQ [oM 29 5,oM 30 4,oW 31 (.len 1 (.t 30)),oW 32 (.arith .lss (.t 29) (.t 31))]
 (.cond (.t 32) .skip (.exit 2)))
 (.seq (.block 3 (.seq (.draw [oRM 35 4,oRM 36 5,oR 37 (.indexAddr 1 (.t 35) (.t 36)),oRD 38 37,oRM 39 4,oRM 40 5,oR 41 (.arith .sub (.t 40) (oI 1)),oR 42 (.indexAddr 1 (.t 39) (.t 41)),oRD 43 42,oR 44 (.arith .neq (.t 38) (.t 43))])
 (.cond (.t 44) (oQ [oM 45 0,oM 46 3,oM 47 4,oM 48 5,oW 49 (.indexAddr 1 (.t 47) (.t 48)),oD 50 49,oW 51 (.indexAddr 1 (.t 45) (.t 46)),oS 1 51 50]
 (.region [oM 52 3,oW 53 (.arith .add (.t 52) (oI 1)),oM 3 53])) .skip)))
 (.region [oM 33 5,oW 34 (.arith .add (.t 33) (oI 1)),oM 5 34])))
def t66k0:DCode :=
 (oQ [oM 54 0,oM 55 3,oW 56 (.sliceSl 1 (.t 54) (some (.t 55)) none),oZ (.clear 1 (.int .i64 0) (.t 56))]
 (oQ [oM 57 0,oM 58 3,oW 59 (.sliceSl 1 (.t 57) none (some (.t 58))),oM 2 59]
 .ret))
def t66k1:DCode :=
 (.region [oM 14 3,oW 15 (.arith .add (.t 14) (oI 1)),oM 3 15])
def t66l1:DCode :=
 (.seq (oQ [oM 10 3,oM 11 0,oW 12 (.len 1 (.t 11)),oW 13 (.arith .lss (.t 10) (.t 12))]
 (.cond (.t 13) .skip (.exit 0)))
 (.seq (.block 1 (.seq (.draw [oRM 16 0,oRM 17 3,oR 18 (.indexAddr 1 (.t 16) (.t 17)),oRD 19 18,oRM 20 0,oRM 21 3,oR 22 (.arith .sub (.t 21) (oI 1)),oR 23 (.indexAddr 1 (.t 20) (.t 22)),oRD 24 23,oR 25 (.arith .eql (.t 19) (.t 24))])
 (.cond (.t 25) (oQ [oM 26 0,oM 27 3,oW 28 (.sliceSl 1 (.t 26) (some (.t 27)) none),oM 4 28]
 (.seq (oQ [oW 5 (.move (oI 1))]
 (.block 2 (.loop t66l0)))
 t66k0)) .skip)))
 t66k1))
def t66k2:DCode :=
 (oQ [oM 60 0,oM 2 60]
 .ret)
def t66:DFunc:={ntmps:=61,results:=[.t 2],mode:=.full,body :=
 (oQ [oW 2 (.move (.c .nsl))]
 (.seq (oQ [oM 6 0,oW 7 (.len 1 (.t 6)),oW 8 (.arith .lss (.t 7) (oI 2))]
 (.cond (.t 8) (oQ [oM 9 0,oM 2 9]
 .ret) .skip))
 (.seq (oQ [oW 3 (.move (oI 1))]
 (.block 0 (.loop t66l1)))
 t66k2)))}
theorem c66:compFunc Tryz.prog Tryz.f66 .full=some t66:=by kernel_rfl
def t67:DFunc:={ntmps:=2,results:=[.t 0],mode:=.pure,body :=
 (oQ [oW 0 (.move (.c .nsl))]
 (oQ [oW 1 (.buildSlice 9 1 (.str []) 7 [(0,(.c (.str [97]))),(1,(.c (.str [98]))),(2,(.c (.str [99]))),(3,(.c (.str [100]))),(4,(.c (.str [101]))),(5,(.c (.str [102]))),(6,(.c (.str [103])))]),oM 0 1]
 .ret))}
theorem c67:compFunc Tryz.prog Tryz.f67 .pure=some t67:=by kernel_rfl
def t68:DFunc:={ntmps:=44,results:=[(.cell 4 (some 5))],mode:=.pure,body :=
 (oQ [oW 4 (.alloc 62 5 (.agg [.str [],.int .i64 0,.int .i64 0,.int .i64 0,.str []]))]
 (oQ [oM 6 0,oW 7 (.build [.str [],.int .i64 0,.int .i64 0,.int .i64 0,.str []] [(0,1,.t 6)]),oW 5 (.alloc 62 5 (.agg [.str [],.int .i64 0,.int .i64 0,.int .i64 0,.str []])),oS 5 5 7]
 (.seq (oQ [oM 8 1,oW 9 (.call (oF 16) [.t 8,oI 0,oI 3])]
 (.block 0 (.seq (oQ [oW 19 (.arith .eql (.t 9) (oI 0)),oM 18 19]
 (.cond (.t 18) .skip (.region [oW 20 (.arith .eql (.t 9) (oI 1)),oM 18 20])))
 (.cond (.t 18) (oQ [oM 21 1,oW 22 (.arith .quo (.t 21) (oI 4)),oW 23 (.call (oF 16) [.t 22,oI 0,oI 9]),oA 24 1 5,oZ (.store 1 (.t 24) (oI 1)),oA 25 2 5,oS 1 25 23]
 (.draw [oRA 26 2 5,oRD 27 26,oRM 28 1,oR 29 (.arith .quo (.t 28) (oI 40)),nK 30 (.call (oF 16) [.t 29,oI 0,oI 9]) .create 0,nK 31 (.arith .add (.t 27) (.t 30)) .read 1,nK 32 (.fieldAddr 3 (.t 5)) .read 1,⟨none,.store 1 (.t 32) (.t 31),none,.write,1,false⟩])) (oQ [oW 34 (.arith .eql (.t 9) (oI 2)),oM 33 34]
 (.cond (.t 33) (.draw [oW 35 (.call (oF 136) []),oRM 36 1,oR 37 (.arith .quo (.t 36) (oI 4)),nK 38 (.call (oF 16) [.t 37,oI 0,oI 6]) .write 1,nK 39 (.indexAddr 1 (.t 35) (.t 38)) .read 2,nK 40 (.load none (.t 39)) .read 2,oRA 41 1 5,⟨none,.store 1 (.t 41) (oI 2),none,.create,2,false⟩,nK 42 (.fieldAddr 4 (.t 5)) .read 3,⟨none,.store 1 (.t 42) (.t 40),none,.write,3,false⟩]) (.draw [oW 10 (.call (oF 136) []),oRM 11 1,oR 12 (.arith .quo (.t 11) (oI 4)),nK 13 (.call (oF 16) [.t 12,oI 0,oI 6]) .write 1,nK 14 (.indexAddr 1 (.t 10) (.t 13)) .read 2,nK 15 (.load none (.t 14)) .read 2,oRA 16 1 5,⟨none,.store 1 (.t 16) (oI 3),none,.create,2,false⟩,nK 17 (.fieldAddr 4 (.t 5)) .read 3,⟨none,.store 1 (.t 17) (.t 15),none,.write,3,false⟩])))))))
 (oQ [oL 43 5 5,oS 5 4 43]
 .ret))))}
theorem c68:compFunc Tryz.prog Tryz.f68 .pure=some t68:=by kernel_rfl
def t69:DFunc:={ntmps:=15,results:=[.t 4],mode:=.pure,body :=
 (oQ [oW 4 (.move (oI 0))]
 (.seq (oQ [oM 5 0,oW 6 (.len 1 (.t 5)),oW 7 (.arith .eql (.t 6) (oI 0))]
 (.cond (.t 7) (oQ [oW 4 (.move (oI 0))]
 .ret) .skip))
 (oQ [oM 8 0,oM 9 1,oM 10 0,oW 11 (.len 1 (.t 10)),oW 12 (.arith .rem (.t 9) (.t 11)),oW 13 (.indexAddr 1 (.t 8) (.t 12)),oD 14 13,oM 4 14]
 .ret)))}
theorem c69:compFunc Tryz.prog Tryz.f69 .pure=some t69:=by kernel_rfl
def t70:DFunc:={ntmps:=24,results:=[(.cell 2 (some 6))],mode:=.full,body :=
 (oQ [oW 1 (.box 29 6 (.t 0)),oW 2 (.alloc 29 6 (.agg [.int .i64 0,.nsl,.nsl,.nsl,.nsl,.nsl]))]
 (.seq (.draw [oRA 3 1 1,oRD 4 3,nK 5 (.call (oF 64) [.t 4]) .create 0,oRA 6 2 1,oRD 7 6,nK 8 (.call (oF 137) [.t 7]) .create 0,oRA 9 3 1,oRD 10 9,nK 11 (.call (oF 138) [.t 10]) .create 0,oRA 12 4 1,oRD 13 12,nK 14 (.call (oF 112) [.t 13]) .create 0,oRA 15 5 1,oRD 16 15,nK 17 (.call (oF 126) [.t 16]) .write 4,nK 18 (.fieldAddr 1 (.t 1)) .read 1,⟨none,.store 1 (.t 18) (.t 5),none,.write,5,false⟩,nK 19 (.fieldAddr 2 (.t 1)) .read 6,⟨none,.store 1 (.t 19) (.t 8),none,.write,6,false⟩,nK 20 (.fieldAddr 3 (.t 1)) .read 7,⟨none,.store 1 (.t 20) (.t 11),none,.write,7,false⟩,nK 21 (.fieldAddr 4 (.t 1)) .read 8,⟨none,.store 1 (.t 21) (.t 14),none,.write,8,false⟩,nK 22 (.fieldAddr 5 (.t 1)) .read 9,⟨none,.store 1 (.t 22) (.t 17),none,.write,9,false⟩])
 (oQ [oL 23 6 1,oS 6 2 23]
 .ret)))}
theorem c70:compFunc Tryz.prog Tryz.f70 .full=some t70:=by kernel_rfl
def t71:DFunc:={ntmps:=12,results:=[.t 4,.t 5],mode:=.pure,body :=
 (oQ [oW 2 (.box 29 6 (.t 0)),oW 3 (.box 37 2 (.t 1)),oW 4 (.move (oI 0)),oW 5 (.move (oB false))]
 (oQ [oA 6 3 2,oD 7 6,oL 8 2 3,oW 9 (.call (oF 139) [.t 7,.t 8,oF 101]),oX 10 9 0,oX 11 9 1,oM 4 10,oM 5 11]
 .ret))}
theorem c71:compFunc Tryz.prog Tryz.f71 .pure=some t71:=by kernel_rfl
def t72:DFunc:={ntmps:=12,results:=[.t 4,.t 5],mode:=.pure,body :=
 (oQ [oW 2 (.box 29 6 (.t 0)),oW 3 (.box 37 2 (.t 1)),oW 4 (.move (oI 0)),oW 5 (.move (oB false))]
 (oQ [oA 6 2 2,oD 7 6,oL 8 2 3,oW 9 (.call (oF 140) [.t 7,.t 8,oF 141]),oX 10 9 0,oX 11 9 1,oM 4 10,oM 5 11]
 .ret))}
theorem c72:compFunc Tryz.prog Tryz.f72 .pure=some t72:=by kernel_rfl
def t73:DFunc:={ntmps:=95,results:=[.t 6],mode:=.split,body :=
 (oQ [oW 6 (.move (.c .nsl))]
 (oQ [oM 10 0,oM 11 1,oW 12 (.sliceSl 4 (.t 10) (some (.t 11)) none)]
 (oQ [oM 13 2,oW 14 (.len 1 (.t 13)),oM 7 14]
 (.seq (oQ [oM 15 7,oW 16 (.arith .eql (.t 15) (oI 0))]
 (.cond (.t 16) (oQ [oM 17 0,oM 6 17]
 .ret) .skip))
 (oQ [oM 18 0,oW 19 (.len 1 (.t 18)),oM 8 19]
 (.seq (oQ [oM 20 1,oM 21 8,oW 22 (.arith .eql (.t 20) (.t 21))]
 (.cond (.t 22) (oQ [oM 23 0,oM 24 2,oW 25 (.append 42 4 48 (.t 23) (.t 24)),oM 6 25]
 .ret) .skip))
 (.seq (oQ [oM 26 8,oM 27 7,oW 28 (.arith .add (.t 26) (.t 27)),oM 29 0,oW 30 (.cap (.t 29)),oW 31 (.arith .gtr (.t 28) (.t 30))]
 (.cond (.t 31) (oQ [oM 32 0,oM 33 1,oW 34 (.sliceSl 4 (.t 32) none (some (.t 33))),oM 35 8,oM 36 7,oW 37 (.arith .add (.t 35) (.t 36)),oM 38 1,oW 39 (.arith .sub (.t 37) (.t 38)),oW 40 (.appendZ 42 4 48 (.agg [.int .i64 0,.int .i64 0,.nsl,.int .i64 0]) (.t 34) (.t 39)),oM 9 40]
 (oQ [oM 41 9,oM 42 1,oW 43 (.sliceSl 4 (.t 41) (some (.t 42)) none),oM 44 2,oW 45 (.copy 4 (.t 43) (.t 44))]
 (.seq (.draw [oRM 46 9,oRM 47 1,oRM 48 7,oR 49 (.arith .add (.t 47) (.t 48)),oR 50 (.sliceSl 4 (.t 46) (some (.t 49)) none),oRM 51 0,oRM 52 1,oR 53 (.sliceSl 4 (.t 51) (some (.t 52)) none),oW 54 (.copy 4 (.t 50) (.t 53))])
 (oQ [oM 55 9,oM 6 55]
 .ret)))) .skip))
 (oQ [oM 56 0,oM 57 8,oM 58 7,oW 59 (.arith .add (.t 57) (.t 58)),oW 60 (.sliceSl 4 (.t 56) none (some (.t 59))),oM 0 60]
 (.seq (oQ [oM 61 2,oM 62 0,oM 63 1,oM 64 7,oW 65 (.arith .add (.t 63) (.t 64)),oW 66 (.sliceSl 4 (.t 62) (some (.t 65)) none),oW 67 (.call (oF 142) [.t 61,.t 66]),oW 68 (.un .not (.t 67))]
 (.cond (.t 68) (.seq (.draw [oRM 69 0,oRM 70 1,oRM 71 7,oR 72 (.arith .add (.t 70) (.t 71)),oR 73 (.sliceSl 4 (.t 69) (some (.t 72)) none),oRM 74 0,oRM 75 1,oR 76 (.sliceSl 4 (.t 74) (some (.t 75)) none),oW 77 (.copy 4 (.t 73) (.t 76))])
 (oQ [oM 78 0,oM 79 1,oW 80 (.sliceSl 4 (.t 78) (some (.t 79)) none),oM 81 2,oW 82 (.copy 4 (.t 80) (.t 81))]
 (oQ [oM 83 0,oM 6 83]
 .ret))) .skip))
 (oQ [oM 84 0,oM 85 8,oW 86 (.sliceSl 4 (.t 84) (some (.t 85)) none),oM 87 2,oW 88 (.copy 4 (.t 86) (.t 87))]
 (oQ [oM 89 0,oM 90 1,oW 91 (.sliceSl 4 (.t 89) (some (.t 90)) none),oM 92 7,oW 93 (.call (oF 143) [.t 91,.t 92])]
 (oQ [oM 94 0,oM 6 94]
 .ret))))))))))))}
theorem c73:compFunc Tryz.prog Tryz.f73 .split=some t73:=by kernel_rfl
def t74:DFunc:={ntmps:=95,results:=[.t 6],mode:=.split,body :=
 (oQ [oW 6 (.move (.c .nsl))]
 (oQ [oM 10 0,oM 11 1,oW 12 (.sliceSl 2 (.t 10) (some (.t 11)) none)]
 (oQ [oM 13 2,oW 14 (.len 1 (.t 13)),oM 7 14]
 (.seq (oQ [oM 15 7,oW 16 (.arith .eql (.t 15) (oI 0))]
 (.cond (.t 16) (oQ [oM 17 0,oM 6 17]
 .ret) .skip))
 (oQ [oM 18 0,oW 19 (.len 1 (.t 18)),oM 8 19]
 (.seq (oQ [oM 20 1,oM 21 8,oW 22 (.arith .eql (.t 20) (.t 21))]
 (.cond (.t 22) (oQ [oM 23 0,oM 24 2,oW 25 (.append 37 2 16 (.t 23) (.t 24)),oM 6 25]
 .ret) .skip))
 (.seq (oQ [oM 26 8,oM 27 7,oW 28 (.arith .add (.t 26) (.t 27)),oM 29 0,oW 30 (.cap (.t 29)),oW 31 (.arith .gtr (.t 28) (.t 30))]
 (.cond (.t 31) (oQ [oM 32 0,oM 33 1,oW 34 (.sliceSl 2 (.t 32) none (some (.t 33))),oM 35 8,oM 36 7,oW 37 (.arith .add (.t 35) (.t 36)),oM 38 1,oW 39 (.arith .sub (.t 37) (.t 38)),oW 40 (.appendZ 37 2 16 (.agg [.int .i64 0,.int .i64 0]) (.t 34) (.t 39)),oM 9 40]
 (oQ [oM 41 9,oM 42 1,oW 43 (.sliceSl 2 (.t 41) (some (.t 42)) none),oM 44 2,oW 45 (.copy 2 (.t 43) (.t 44))]
 (.seq (.draw [oRM 46 9,oRM 47 1,oRM 48 7,oR 49 (.arith .add (.t 47) (.t 48)),oR 50 (.sliceSl 2 (.t 46) (some (.t 49)) none),oRM 51 0,oRM 52 1,oR 53 (.sliceSl 2 (.t 51) (some (.t 52)) none),oW 54 (.copy 2 (.t 50) (.t 53))])
 (oQ [oM 55 9,oM 6 55]
 .ret)))) .skip))
 (oQ [oM 56 0,oM 57 8,oM 58 7,oW 59 (.arith .add (.t 57) (.t 58)),oW 60 (.sliceSl 2 (.t 56) none (some (.t 59))),oM 0 60]
 (.seq (oQ [oM 61 2,oM 62 0,oM 63 1,oM 64 7,oW 65 (.arith .add (.t 63) (.t 64)),oW 66 (.sliceSl 2 (.t 62) (some (.t 65)) none),oW 67 (.call (oF 144) [.t 61,.t 66]),oW 68 (.un .not (.t 67))]
 (.cond (.t 68) (.seq (.draw [oRM 69 0,oRM 70 1,oRM 71 7,oR 72 (.arith .add (.t 70) (.t 71)),oR 73 (.sliceSl 2 (.t 69) (some (.t 72)) none),oRM 74 0,oRM 75 1,oR 76 (.sliceSl 2 (.t 74) (some (.t 75)) none),oW 77 (.copy 2 (.t 73) (.t 76))])
 (oQ [oM 78 0,oM 79 1,oW 80 (.sliceSl 2 (.t 78) (some (.t 79)) none),oM 81 2,oW 82 (.copy 2 (.t 80) (.t 81))]
 (oQ [oM 83 0,oM 6 83]
 .ret))) .skip))
 (oQ [oM 84 0,oM 85 8,oW 86 (.sliceSl 2 (.t 84) (some (.t 85)) none),oM 87 2,oW 88 (.copy 2 (.t 86) (.t 87))]
 (oQ [oM 89 0,oM 90 1,oW 91 (.sliceSl 2 (.t 89) (some (.t 90)) none),oM 92 7,oW 93 (.call (oF 145) [.t 91,.t 92])]
 (oQ [oM 94 0,oM 6 94]
 .ret))))))))))))}
theorem c74:compFunc Tryz.prog Tryz.f74 .split=some t74:=by kernel_rfl
def t76:DFunc:={ntmps:=24,results:=[.t 4],mode:=.pure,body :=
 (oQ [oW 2 (.box 37 2 (.t 0)),oW 3 (.box 37 2 (.t 1)),oW 4 (.move (oB false))]
 (oQ [oA 5 0 2,oD 6 5,oA 7 0 3,oD 8 7,oW 9 (.arith .lss (.t 6) (.t 8)),oM 10 9,gA 11 0 2 10 false,gD 12 11 10 false,gA 13 0 3 10 false,gD 14 13 10 false,gW 15 (.arith .eql (.t 12) (.t 14)) 10 false,gM 16 15 10 false,gA 17 1 2 16 true,gD 18 17 16 true,gA 19 1 3 16 true,gD 20 19 16 true,gW 21 (.arith .lss (.t 18) (.t 20)) 16 true,gW 22 (.pick (.t 16) (.t 21) (oB false)) 10 false,oW 23 (.pick (.t 10) (oB true) (.t 22)),oM 4 23]
 .ret))}
theorem c76:compFunc Tryz.prog Tryz.f76 .pure=some t76:=by kernel_rfl
def t77:DFunc:={ntmps:=33,results:=[.t 6],mode:=.full,body :=
 (oQ [oW 6 (.move (.c .nsl))]
 (oQ [oM 8 0,oM 9 1,oM 10 2,oM 11 0,oW 12 (.len 1 (.t 11)),oW 13 (.slice3 (.t 8) (.t 9) (.t 10) (.t 12))]
 (.seq (oQ [oM 14 1,oM 15 2,oW 16 (.arith .eql (.t 14) (.t 15))]
 (.cond (.t 16) (oQ [oM 17 0,oM 6 17]
 .ret) .skip))
 (oQ [oM 18 0,oW 19 (.len 1 (.t 18)),oM 7 19]
 (.seq (.draw [oRM 20 0,oRM 21 1,oR 22 (.sliceSl 4 (.t 20) none (some (.t 21))),oRM 23 0,oRM 24 2,oR 25 (.sliceSl 4 (.t 23) (some (.t 24)) none),oW 26 (.append 42 4 48 (.t 22) (.t 25)),nK 0 (.move (.t 26)) .read 1])
 (oQ [oM 27 0,oM 28 0,oW 29 (.len 1 (.t 28)),oM 30 7,oW 31 (.sliceSl 4 (.t 27) (some (.t 29)) (some (.t 30))),oZ (.clear 4 (.agg [.int .i64 0,.int .i64 0,.nsl,.int .i64 0]) (.t 31))]
 (oQ [oM 32 0,oM 6 32]
 .ret)))))))}
theorem c77:compFunc Tryz.prog Tryz.f77 .full=some t77:=by kernel_rfl
end Go.Dm.Tc
