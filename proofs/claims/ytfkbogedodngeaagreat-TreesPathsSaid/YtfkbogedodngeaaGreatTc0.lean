/- A part of the proof. -/
import Derived.Test.YtfkbogedodngeaaGreatMm4
import Derived.Test.YtfkbogedodngeaaGreatRows
import Derived.KernelRfl
namespace Go.Dm.Tc
open Go.Proofs
abbrev oQ(l:List aJ)(c:aI):aI:=.seq (.region l) c
abbrev gW(d:Nat)(op:DOp)(g:Nat)(b:Bool):aJ:=⟨some d,op,some (g,b),.write,0,false⟩
abbrev gM(d x g:Nat)(b:Bool):aJ:=⟨some d,.move (.t x),some (g,b),.write,0,false⟩
abbrev gA(d o x g:Nat)(b:Bool):aJ:=⟨some d,.fieldAddr o (.t x),some (g,b),.write,0,false⟩
abbrev gD(d x g:Nat)(b:Bool):aJ:=⟨some d,.load none (.t x),some (g,b),.write,0,false⟩
abbrev gL(d n x g:Nat)(b:Bool):aJ:=⟨some d,.load (some n) (.t x),some (g,b),.write,0,false⟩
abbrev rW(d:Nat)(op:DOp)(g:Nat)(b:Bool):aJ:=⟨some d,op,some (g,b),.read,0,false⟩
abbrev rM(d x g:Nat)(b:Bool):aJ:=⟨some d,.move (.t x),some (g,b),.read,0,false⟩
abbrev rA(d o x g:Nat)(b:Bool):aJ:=⟨some d,.fieldAddr o (.t x),some (g,b),.read,0,false⟩
abbrev rD(d x g:Nat)(b:Bool):aJ:=⟨some d,.load none (.t x),some (g,b),.read,0,false⟩
abbrev rL(d n x g:Nat)(b:Bool):aJ:=⟨some d,.load (some n) (.t x),some (g,b),.read,0,false⟩
abbrev nK(d:Nat)(op:DOp)(k:rI)(s:Nat):aJ:=⟨some d,op,none,k,s,false⟩
def JG:aI :=
 (oQ [oW 52 (.arith .lss (.t 51) (oI 100))]
 (.seq (.cond (.t 52) .skip (.exit 0))
 (.seq (.block 1 (oQ [oM 53 51,oM 14 53]
 (oQ [oM 54 10,oW 55 (.call (oF 20) [.t 54]),oM 15 55]
 (.seq (oQ [oM 56 15,oW 57 (.len 1 (.t 56)),oW 58 (.arith .eql (.t 57) (oI 0))]
 (.cond (.t 58) (.exit 0) .skip))
 (oQ [oW 16 (.move (oI 0))]
 (.seq (oQ [oM 59 14,oM 60 1,oW 61 (.len 1 (.t 60)),oW 62 (.arith .lss (.t 59) (.t 61))]
 (.cond (.t 62) (.region [oM 63 1,oM 64 14,oW 65 (.indexAddr 1 (.t 63) (.t 64)),oD 66 65,oM 67 15,oW 68 (.len 1 (.t 67)),oW 69 (.arith .sub (.t 68) (oI 1)),oW 70 (.call (oF 8) [.t 66,oI 0,.t 69]),oM 16 70]) .skip))
 (.draw [oRM 72 15,oRM 73 16,oR 74 (.indexAddr 2 (.t 72) (.t 73)),oR 75 (.indexArr 2 1 (.t 74) (oI 0)),oRD 76 75,oRM 77 15,oRM 78 16,oR 79 (.indexAddr 2 (.t 77) (.t 78)),oR 80 (.indexArr 2 1 (.t 79) (oI 1)),oRD 81 80,oRM 71 10,oW 82 (.call (oF 22) [.t 71,.t 76,.t 81])])))))))
 (.region [oW 83 (.arith .add (.t 51) (oI 1)),oM 51 83]))))
def JF:aI :=
 (.seq (oQ [oM 134 20,oM 135 19,oW 136 (.len 1 (.t 135)),oW 137 (.arith .lss (.t 134) (.t 136))]
 (.cond (.t 137) .skip (.exit 2)))
 (.seq (.block 3 (.seq (.draw [oRL 140 2 9,oRM 141 19,oRM 142 20,oR 143 (.arith .sub (.t 142) (oI 1)),oR 144 (.indexAddr 1 (.t 141) (.t 143)),oRD 145 144,oRM 146 19,oRM 147 20,oR 148 (.indexAddr 1 (.t 146) (.t 147)),oRD 149 148,oW 150 (.call (oF 30) [.t 140,.t 145,.t 149]),nK 151 (.un .not (.t 150)) .read 1])
 (.cond (.t 151) (oQ [oW 8 (.move (oB false))]
 .ret) .skip)))
 (.region [oM 138 20,oW 139 (.arith .add (.t 138) (oI 1)),oM 20 139])))
def CP:aI :=
 (oQ [oW 162 (.arith .lss (.t 161) (.t 160))]
 (.seq (.cond (.t 162) .skip (.exit 6))
 (.seq (.block 7 (oQ [oW 163 (.indexAddr 1 (.t 159) (.t 161)),oD 164 163,oM 25 164]
 (.region [oM 165 23,oM 166 165,gM 167 25 166 false,gM 168 18 166 false,gW 169 (.arith .eql (.t 167) (.t 168)) 166 false,oW 170 (.pick (.t 166) (oB true) (.t 169)),oM 23 170])))
 (.region [oW 171 (.arith .add (.t 161) (oI 1)),oM 161 171]))))
def JE:aI :=
 (oQ [oW 177 (.arith .lss (.t 176) (.t 175))]
 (.seq (.cond (.t 177) .skip (.exit 8))
 (.seq (.block 9 (oQ [oW 178 (.indexAddr 1 (.t 174) (.t 176)),oD 179 178,oM 27 179]
 (oQ [oM 180 27,oM 181 22,oW 182 (.arith .eql (.t 180) (.t 181))]
 (.cond (.t 182) (oQ [oM 183 21,oW 184 (.arith .add (.t 183) (oI 1)),oM 21 184]
 (.seq (oQ [oM 185 23,oW 186 (.un .not (.t 185))]
 (.cond (.t 186) (oQ [oW 8 (.move (oB false))]
 .ret) .skip))
 (.region [oW 23 (.move (oB false))]))) .skip))))
 (.region [oW 187 (.arith .add (.t 176) (oI 1)),oM 176 187]))))
def JJ:aI :=
 (oQ [oM 188 23]
 (.cond (.t 188) (oQ [oW 8 (.move (oB false))]
 .ret) .skip))
def CQ:aI :=
 (.seq (oQ [oM 172 17,oM 173 18,oW 174 (.call (oF 26) [.t 172,.t 173]),oW 175 (.len 1 (.t 174)),oW 176 (.move (oI 0))]
 (.block 8 (.loop JE)))
 JJ)
def JI:aI :=
 (.region [oW 189 (.arith .add (.t 154) (oI 1)),oM 154 189])
def O7:aI :=
 (oQ [oW 155 (.arith .lss (.t 154) (.t 153))]
 (.seq (.cond (.t 155) .skip (.exit 4))
 (.seq (.block 5 (oQ [oM 156 154,oM 22 156]
 (oQ [oW 23 (.move (oB false))]
 (.seq (oQ [oM 157 17,oM 158 22,oW 159 (.call (oF 27) [.t 157,.t 158]),oW 160 (.len 1 (.t 159)),oW 161 (.move (oI 0))]
 (.block 6 (.loop CP)))
 CQ))))
 JI)))
def O9:aI :=
 (oQ [oM 190 21,oM 191 17,oM 192 18,oW 193 (.call (oF 26) [.t 191,.t 192]),oW 194 (.len 1 (.t 193)),oW 195 (.arith .eql (.t 190) (.t 194)),oM 196 195,gW 197 (.call (oF 24) []) 196 true,oW 198 (.pick (.t 196) (.t 197) (oB false)),oM 8 198]
 .ret)
def JH:aI :=
 (oQ [oW 21 (.move (oI 0))]
 (.seq (oQ [oA 152 0 9,oD 153 152,oW 154 (.move (oI 0))]
 (.block 4 (.loop O7)))
 O9))
def O8:aI :=
 (oQ [oM 84 10,oL 85 2 12,oW 86 (.call (oF 23) [.t 84,.t 85]),oM 17 86]
 (oQ [oM 87 3,oA 88 0 9,oD 89 88,oW 90 (.arith .sub (.t 89) (oI 1)),oW 91 (.call (oF 8) [.t 87,oI 0,.t 90]),oM 18 91]
 (oQ [oM 92 17,oM 93 18,oW 94 (.call (oF 27) [.t 92,.t 93]),oM 19 94]
 (.seq (oQ [oM 95 19,oW 96 (.len 1 (.t 95)),oW 97 (.arith .eql (.t 96) (oI 0)),oM 98 97,gM 99 19 98 false,gM 100 19 98 false,gW 101 (.len 1 (.t 100)) 98 false,gW 102 (.arith .sub (.t 101) (oI 1)) 98 false,gW 103 (.indexAddr 1 (.t 99) (.t 102)) 98 false,gD 104 103 98 false,gM 105 13 98 false,gW 106 (.arith .neq (.t 104) (.t 105)) 98 false,oW 107 (.pick (.t 98) (oB true) (.t 106)),oM 108 107,gM 109 19 108 false,gW 110 (.indexAddr 1 (.t 109) (oI 0)) 108 false,gD 111 110 108 false,gM 112 18 108 false,gW 113 (.arith .neq (.t 111) (.t 112)) 108 false,oW 114 (.pick (.t 108) (oB true) (.t 113)),oM 115 114,gM 116 17 115 false,gM 117 18 115 false,gW 118 (.call (oF 28) [.t 116,.t 117]) 115 false,gM 119 19 115 false,gW 120 (.len 1 (.t 119)) 115 false,gW 121 (.arith .sub (.t 120) (oI 1)) 115 false,gW 122 (.arith .neq (.t 118) (.t 121)) 115 false,oW 123 (.pick (.t 115) (oB true) (.t 122)),oM 124 123,gM 125 19 124 false,gW 126 (.len 1 (.t 125)) 124 false,gW 127 (.arith .sub (.t 126) (oI 1)) 124 false,gL 128 2 9 124 false,gM 129 18 124 false,gM 130 13 124 false,gW 131 (.call (oF 29) [.t 128,.t 129,.t 130]) 124 false,gW 132 (.arith .lss (.t 127) (.t 131)) 124 false,oW 133 (.pick (.t 124) (oB true) (.t 132))]
 (.cond (.t 133) (oQ [oW 8 (.move (oB false))]
 .ret) .skip))
 (.seq (oQ [oW 20 (.move (oI 1))]
 (.block 2 (.loop JF)))
 JH)))))
def t5:aK:={ntmps:=199,results:=[.t 8],mode:=.pure,body :=
 (oQ [oW 4 (.box 63 3 (.t 0)),oW 8 (.move (oB false))]
 (oQ [oL 28 3 4,oW 29 (.call (oF 17) [.t 28]),oW 9 (.alloc 66 2 (.agg [.int .i64 0,.nsl])),oS 2 9 29]
 (oQ [oL 31 2 9,oW 32 (.call (oF 18) [.t 31]),oM 30 32,oX 33 30 0,oX 34 30 1,oM 10 33,oM 11 34]
 (.seq (oQ [oM 35 10,oW 36 (.eqn 0 false (.t 35) (.c .nilp)),oM 37 36,gM 38 11 37 false,gW 39 (.eqn 4 true (.t 38) (.c .nili)) 37 false,oW 40 (.pick (.t 37) (oB true) (.t 39))]
 (.cond (.t 40) (oQ [oW 8 (.move (oB false))]
 .ret) .skip))
 (oQ [oW 41 (.build [.int .i64 0,.int .i64 0] [(1,1,oI 3)]),oW 12 (.alloc 24 2 (.agg [.int .i64 0,.int .i64 0])),oS 2 12 41]
 (oQ [oM 42 2,oA 43 0 9,oD 44 43,oW 45 (.arith .sub (.t 44) (oI 1)),oW 46 (.call (oF 8) [.t 42,oI 0,.t 45]),oM 13 46]
 (oQ [oM 47 10,oM 48 13,oL 49 2 12,oW 50 (.call (oF 19) [.t 47,.t 48,.t 49,.c .nsl])]
 (.seq (oQ [oW 51 (.move (oI 0))]
 (.block 0 (.loop JG)))
 O8))))))))}
theorem c5:aD Tryz.prog Tryz.f5 .pure=some t5:=by kernel_rfl
def t6:aK:={ntmps:=44,results:=[(.cell 4 (some 6)),.t 5],mode:=.frz,body :=
 (oQ [oW 2 (.box 31 6 (.t 0)),oW 3 (.box 37 4 (.t 1)),oW 4 (.alloc 31 6 (.agg [.int .i64 0,.nsl,.nsl,.nsl,.nsl,.nsl])),oW 5 (.move (oB false))]
 (oQ [oL 10 6 2,oW 11 (.call (oF 31) [.t 10]),oS 6 2 11]
 (oQ [oL 13 6 2,oA 14 0 3,oL 15 2 14,oW 16 (.call (oF 32) [.t 13,.t 15]),oM 12 16,oX 17 12 0,oX 18 12 1,oM 6 17,oM 7 18]
 (.seq (oQ [oM 19 7]
 (.cond (.t 19) (oQ [oL 20 6 2,oS 6 4 20,oW 5 (.move (oB false))]
 .ret) .skip))
 (oQ [oL 22 6 2,oA 23 0 3,oL 24 2 23,oW 25 (.call (oF 33) [.t 22,.t 24]),oM 21 25,oX 26 21 0,oX 27 21 1,oM 8 26,oM 9 27]
 (oQ [oA 28 2 2,oD 29 28,oM 30 8,oL 31 4 3,oW 32 (.buildSlice 37 4 (.agg [.int .i64 0,.int .i64 0,.nsl,.int .i64 0]) 1 [(0,.t 31)]),oW 33 (.call (oF 34) [.t 29,.t 30,.t 32]),oA 34 2 2,oS 1 34 33]
 (oQ [oA 35 3 2,oD 36 35,oM 37 6,oA 38 0 3,oL 39 2 38,oW 40 (.buildSlice 24 2 (.agg [.int .i64 0,.int .i64 0]) 1 [(0,.t 39)]),oW 41 (.call (oF 35) [.t 36,.t 37,.t 40]),oA 42 3 2,oS 1 42 41]
 (oQ [oL 43 6 2,oS 6 4 43,oW 5 (.move (oB true))]
 .ret))))))))}
theorem c6:aD Tryz.prog Tryz.f6 .frz=some t6:=by kernel_rfl
def t7:aK:={ntmps:=14,results:=[(.cell 4 (some 6))],mode:=.pure,body :=
 (oQ [oW 4 (.alloc 31 6 (.agg [.int .i64 0,.nsl,.nsl,.nsl,.nsl,.nsl]))]
 (oQ [oM 6 1,oW 7 (.call (oF 36) [.t 6]),oM 5 7]
 (oQ [oM 8 5,oW 9 (.call (oF 37) [.t 8])]
 (oQ [oM 10 0,oM 11 5,oW 12 (.call (oF 38) [.t 11]),oW 13 (.build [.int .i64 0,.nsl,.nsl,.nsl,.nsl,.nsl] [(0,1,.t 10),(1,1,.t 12)]),oS 6 4 13]
 .ret))))}
theorem c7:aD Tryz.prog Tryz.f7 .pure=some t7:=by kernel_rfl
def t8:aK:={ntmps:=24,results:=[.t 6],mode:=.pure,body :=
 (oQ [oW 6 (.move (oI 0))]
 (oQ [oM 7 0,oM 8 2,oM 9 1,oW 10 (.arith .sub (.t 8) (.t 9)),oW 11 (.arith .add (.t 10) (oI 1)),oW 12 (.arith .rem (.t 7) (.t 11)),oM 0 12]
 (.seq (oQ [oM 13 0,oW 14 (.arith .lss (.t 13) (oI 0))]
 (.cond (.t 14) (.region [oM 15 0,oM 16 2,oW 17 (.arith .add (.t 15) (.t 16)),oM 18 1,oW 19 (.arith .sub (.t 17) (.t 18)),oW 20 (.arith .add (.t 19) (oI 1)),oM 0 20]) .skip))
 (oQ [oM 21 1,oM 22 0,oW 23 (.arith .add (.t 21) (.t 22)),oM 6 23]
 .ret))))}
theorem c8:aD Tryz.prog Tryz.f8 .pure=some t8:=by kernel_rfl
def t12:aK:={ntmps:=20,results:=[(.cell 6 (some 6)),.t 7],mode:=.frz,body :=
 (oQ [oW 3 (.box 31 6 (.t 0)),oW 5 (.box 52 7 (.t 2)),oW 6 (.alloc 31 6 (.agg [.int .i64 0,.nsl,.nsl,.nsl,.nsl,.nsl])),oW 7 (.move (.c .nsl))]
 (oQ [oL 8 6 3,oA 9 1 5,oL 10 2 9,oA 11 3 5,oL 12 2 11,oA 13 5 5,oD 14 13,oM 15 1,oW 16 (.build [.int .i64 0,.int .i64 0,.int .i64 0,.int .i64 0,.nsl,.int .i64 0,.bool false] [(0,2,.t 10),(2,2,.t 12),(4,1,.t 14),(5,1,.t 15)]),oW 17 (.call (oF 46) [.t 8,.t 16]),oX 18 17 0,oX 19 17 1,oS 6 6 18,oM 7 19]
 .ret))}
theorem c12:aD Tryz.prog Tryz.f12 .frz=some t12:=by kernel_rfl
def t13:aK:={ntmps:=17,results:=[(.cell 6 (some 6)),.t 7],mode:=.frz,body :=
 (oQ [oW 3 (.box 31 6 (.t 0)),oW 5 (.box 52 7 (.t 2)),oW 6 (.alloc 31 6 (.agg [.int .i64 0,.nsl,.nsl,.nsl,.nsl,.nsl])),oW 7 (.move (.c .nsl))]
 (oQ [oL 8 6 3,oA 9 1 5,oL 10 2 9,oA 11 3 5,oL 12 2 11,oM 13 1,oW 14 (.call (oF 48) [.t 8,.t 10,.t 12,.t 13]),oX 15 14 0,oX 16 14 1,oS 6 6 15,oM 7 16]
 .ret))}
theorem c13:aD Tryz.prog Tryz.f13 .frz=some t13:=by kernel_rfl
def VB:aI :=
 (oQ [oW 12 (.arith .lss (.t 11) (.t 10))]
 (.seq (.cond (.t 12) .skip (.exit 0))
 (.seq (.block 1 (oQ [oW 13 (.indexAddr 7 (.t 9) (.t 11)),oL 14 7 13,oW 7 (.alloc 58 7 (.agg [.int .i64 0,.int .i64 0,.int .i64 0,.int .i64 0,.nsl,.int .i64 0,.bool false])),oS 7 7 14]
 (oQ [oA 15 0 7,oL 16 2 15,oL 17 2 3,oW 18 (.eqa false [1,1] (.t 16) (.t 17))]
 (.cond (.t 18) (.region [oM 19 5,oL 20 7 7,oW 21 (.buildSlice 58 7 (.agg [.int .i64 0,.int .i64 0,.int .i64 0,.int .i64 0,.nsl,.int .i64 0,.bool false]) 1 [(0,.t 20)]),oW 22 (.append 58 7 72 (.t 19) (.t 21)),oM 5 22]) .skip))))
 (.region [oW 23 (.arith .add (.t 11) (oI 1)),oM 11 23]))))
def VC:aI :=
 (oQ [oM 24 5,oM 4 24]
 .ret)
def t14:aK:={ntmps:=25,results:=[.t 4],mode:=.pure,body :=
 (oQ [oW 2 (.box 31 6 (.t 0)),oW 3 (.box 24 2 (.t 1)),oW 4 (.move (.c .nsl))]
 (oQ [oW 5 (.move (.c .nsl))]
 (.seq (oQ [oA 8 4 2,oD 9 8,oW 10 (.len 1 (.t 9)),oW 11 (.move (oI 0))]
 (.block 0 (.loop VB)))
 VC)))}
theorem c14:aD Tryz.prog Tryz.f14 .pure=some t14:=by kernel_rfl
def UQ:aI :=
 (oQ [oW 16 (.arith .lss (.t 15) (.t 14))]
 (.seq (.cond (.t 16) .skip (.exit 0))
 (.seq (.block 1 (oQ [oW 17 (.indexAddr 5 (.t 13) (.t 15)),oL 18 5 17,oW 7 (.alloc 98 5 (.agg [.str [],.int .i64 0,.int .i64 0,.int .i64 0,.str []])),oS 5 7 18]
 (.region [oM 19 5,oA 20 0 7,oD 21 20,oL 22 5 7,oZ (.mapUpdate (.prim 2) (.t 19) (.t 21) (.t 22))])))
 (.region [oW 23 (.arith .add (.t 15) (oI 1)),oM 15 23]))))
def UP:aI :=
 (oQ [oW 27 (.arith .lss (.t 26) (.t 25))]
 (.seq (.cond (.t 27) .skip (.exit 2))
 (.seq (.block 3 (oQ [oW 28 (.indexAddr 5 (.t 24) (.t 26)),oL 29 5 28,oW 9 (.alloc 98 5 (.agg [.str [],.int .i64 0,.int .i64 0,.int .i64 0,.str []])),oS 5 9 29]
 (oQ [oM 31 5,oA 32 0 9,oD 33 32,oW 34 (.lookup (.prim 2) (.agg [.str [],.int .i64 0,.int .i64 0,.int .i64 0,.str []]) true (.t 31) (.t 33)),oM 30 34,oX 35 30 0,oX 36 30 1,oW 10 (.alloc 98 5 (.agg [.str [],.int .i64 0,.int .i64 0,.int .i64 0,.str []])),oS 5 10 35,oM 11 36]
 (oQ [oM 37 11,oW 38 (.un .not (.t 37)),oM 39 38,gL 40 5 9 39 false,gL 41 5 10 39 false,gW 42 (.call (oF 49) [.t 40,.t 41]) 39 false,gW 43 (.un .not (.t 42)) 39 false,oW 44 (.pick (.t 39) (oB true) (.t 43))]
 (.cond (.t 44) (oQ [oW 4 (.move (oB false))]
 .ret) .skip)))))
 (.region [oW 45 (.arith .add (.t 26) (oI 1)),oM 26 45]))))
def US:aI :=
 (oQ [oW 4 (.move (oB true))]
 .ret)
def UR:aI :=
 (.seq (oQ [oM 24 0,oW 25 (.len 1 (.t 24)),oW 26 (.move (oI 0))]
 (.block 2 (.loop UP)))
 US)
def t15:aK:={ntmps:=46,results:=[.t 4],mode:=.pure,body :=
 (oQ [oW 4 (.move (oB false))]
 (oQ [oW 12 (.makeMap),oM 5 12]
 (.seq (oQ [oM 13 1,oW 14 (.len 1 (.t 13)),oW 15 (.move (oI 0))]
 (.block 0 (.loop UQ)))
 UR)))}
theorem c15:aD Tryz.prog Tryz.f15 .pure=some t15:=by kernel_rfl
def H5:aI :=
 (.seq (oQ [oM 14 6,oA 15 0 3,oD 16 15,oW 17 (.arith .lss (.t 14) (.t 16))]
 (.cond (.t 17) .skip (.exit 0)))
 (.seq (.block 1 (.region [oM 20 5,oM 21 6,oA 22 1 1,oD 23 22,oM 24 6,oW 25 (.call (oF 41) [.t 23,.t 24]),oM 26 6,oW 27 (.arith .sub (.t 26) (oI 1)),oW 28 (.call (oF 8) [.t 25,oI 0,.t 27]),oW 29 (.call (.t 20) [.t 21,.t 28])]))
 (.region [oM 18 6,oW 19 (.arith .add (.t 18) (oI 1)),oM 6 19])))
def G9:aI :=
 (.seq (oQ [oM 30 7,oA 31 2 1,oD 32 31,oW 33 (.len 1 (.t 32)),oW 34 (.arith .lss (.t 30) (.t 33)),oM 35 34,gM 36 7 35 true,gW 37 (.arith .lss (.t 36) (oI 8)) 35 true,oW 38 (.pick (.t 35) (.t 37) (oB false))]
 (.cond (.t 38) .skip (.exit 2)))
 (.seq (.block 3 (.draw [oRA 42 2 1,oRD 43 42,oRM 44 7,oR 45 (.indexAddr 1 (.t 43) (.t 44)),oRD 46 45,oRA 47 0 3,oRD 48 47,oR 49 (.arith .sub (.t 48) (oI 1)),nK 50 (.call (oF 8) [.t 46,oI 0,.t 49]) .create 0,oRA 51 2 1,oRD 52 51,oRM 53 7,oR 54 (.indexAddr 1 (.t 52) (.t 53)),oRD 55 54,oRA 57 0 3,oRD 58 57,oR 56 (.arith .quo (.t 55) (oI 8)),oR 59 (.arith .sub (.t 58) (oI 1)),nK 60 (.call (oF 8) [.t 56,oI 0,.t 59]) .write 1,oRM 41 5,nK 61 (.call (.t 41) [.t 50,.t 60]) .write 2]))
 (.region [oM 39 7,oW 40 (.arith .add (.t 39) (oI 1)),oM 7 40])))
def H7:aI :=
 (oQ [oL 62 2 3,oS 2 2 62]
 .ret)
def H6:aI :=
 (.seq (oQ [oW 7 (.move (oI 0))]
 (.block 2 (.loop G9)))
 H7)
def t17:aK:={ntmps:=63,results:=[(.cell 2 (some 2))],mode:=.pure,body :=
 (oQ [oW 1 (.box 63 3 (.t 0)),oW 2 (.alloc 66 2 (.agg [.int .i64 0,.nsl]))]
 (oQ [oA 8 0 1,oD 9 8,oW 10 (.call (oF 8) [.t 9,oI 1,oI 7]),oW 11 (.build [.int .i64 0,.nsl] [(0,1,.t 10)]),oW 3 (.alloc 66 2 (.agg [.int .i64 0,.nsl])),oS 2 3 11]
 (oQ [oW 12 (.makeMap),oW 4 (.alloc 110 1 .nmap),oS 1 4 12]
 (oQ [oW 13 (.makeFunc 50 [.t 4,.t 3]),oM 5 13]
 (.seq (oQ [oW 6 (.move (oI 1))]
 (.block 0 (.loop H5)))
 H6)))))}
theorem c17:aD Tryz.prog Tryz.f17 .pure=some t17:=by kernel_rfl
def G7:aI :=
 (oQ [oW 22 (.arith .lss (.t 21) (.t 20))]
 (.seq (.cond (.t 22) .skip (.exit 0))
 (.seq (.block 1 (oQ [oM 23 21,oM 6 23]
 (.draw [oRM 25 5,oR 26 (.nilCheck (.t 25)),oRA 27 2 26,oRD 28 27,oRL 30 2 1,oRM 31 6,nK 32 (.call (oF 55) [.t 30,.t 31]) .create 0,oRM 29 6,nK 33 (.call (oF 7) [.t 29,.t 32]) .create 0,nK 34 (.buildSlice 31 6 (.agg [.int .i64 0,.nsl,.nsl,.nsl,.nsl,.nsl]) 1 [(0,.t 33)]) .create 0,nK 35 (.append 31 6 128 (.t 28) (.t 34)) .write 3,oRM 24 5,nK 36 (.nilCheck (.t 24)) .read 4,nK 37 (.fieldAddr 2 (.t 36)) .read 4,⟨none,.store 1 (.t 37) (.t 35),none,.write,4,false⟩])))
 (.region [oW 38 (.arith .add (.t 21) (oI 1)),oM 21 38]))))
def G8:aI :=
 (oQ [oM 39 5,oM 2 39,oW 3 (.move (.c .nili))]
 .ret)
def t18:aK:={ntmps:=40,results:=[.t 2,.t 3],mode:=.full,body :=
 (oQ [oW 1 (.box 66 2 (.t 0)),oW 2 (.move (.c .nilp)),oW 3 (.move (.c .nili))]
 (.seq (oQ [oL 7 2 1,oW 8 (.call (oF 51) [.t 7]),oM 4 8]
 (oQ [oM 9 4,oW 10 (.eqn 4 true (.t 9) (.c .nili))]
 (.cond (.t 10) (oQ [oM 11 4,oW 12 (.call (oF 52) [(.c (.str [110,101,116])),(oI (-1)),.t 11]),oW 2 (.move (.c .nilp)),oM 3 12]
 .ret) .skip)))
 (.seq (.draw [oRL 13 2 1,nK 14 (.call (oF 53) [.t 13]) .create 0,oRL 15 2 1,nK 16 (.call (oF 54) [.t 15]) .write 1,nK 17 (.build [.int .i64 0,.nsl,.nsl,.nilp,.nsl] [(0,2,.t 14),(3,1,.t 16)]) .read 2,nK 18 (.box 120 5 (.t 17)) .write 2,nK 5 (.move (.t 18)) .read 3])
 (.seq (oQ [oA 19 0 1,oD 20 19,oW 21 (.move (oI 0))]
 (.block 0 (.loop G7)))
 G8))))}
theorem c18:aD Tryz.prog Tryz.f18 .full=some t18:=by kernel_rfl
def t19:aK:={ntmps:=13,results:=[.t 8],mode:=.full,body :=
 (oQ [oW 6 (.box 24 2 (.t 2)),oW 7 (.box 35 1 (.t 3)),oW 8 (.move (.c .nili))]
 (oQ [oM 9 0,oM 10 1,oW 11 (.makeFunc 57 [.t 6,.t 7]),oW 12 (.call (oF 56) [.t 9,.t 10,.t 11]),oM 8 12]
 .ret))}
theorem c19:aD Tryz.prog Tryz.f19 .full=some t19:=by kernel_rfl
def t20:aK:={ntmps:=8,results:=[.t 2],mode:=.full,body :=
 (oQ [oW 2 (.move (.c .nsl))]
 (oQ [oM 3 0,oW 4 (.nilCheck (.t 3)),oA 5 3 4,oD 6 5,oW 7 (.call (oF 59) [.t 6]),oM 2 7]
 .ret))}
theorem c20:aD Tryz.prog Tryz.f20 .full=some t20:=by kernel_rfl
def t22:aK:={ntmps:=54,results:=[.t 6,.t 7],mode:=.full,body :=
 (oQ [oW 6 (.move (.c .nsl)),oW 7 (.move (.c .nili))]
 (oQ [oM 14 0,oW 15 (.nilCheck (.t 14)),oA 16 3 15,oD 17 16,oM 18 1,oM 19 2,oW 20 (.call (oF 62) [.t 17,.t 18,.t 19]),oM 13 20,oX 21 13 0,oX 22 13 1,oW 8 (.alloc 52 7 (.agg [.int .i64 0,.int .i64 0,.int .i64 0,.int .i64 0,.int .i64 0,.nsl,.nsl])),oS 7 8 21,oM 9 22]
 (.seq (oQ [oM 23 9,oW 24 (.eqn 4 true (.t 23) (.c .nili))]
 (.cond (.t 24) (oQ [oM 25 1,oM 26 9,oW 27 (.call (oF 52) [(.c (.str [110,101,116])),.t 25,.t 26]),oW 6 (.move (.c .nsl)),oM 7 27]
 .ret) .skip))
 (.seq (.draw [oRM 29 0,oR 30 (.nilCheck (.t 29)),oRA 31 2 30,oRD 32 31,oRM 33 2,oR 34 (.indexAddr 6 (.t 32) (.t 33)),oRL 35 6 34,oRL 37 7 8,oRM 36 1,oW 38 (.call (oF 63) [.t 35,.t 36,.t 37]),nK 28 (.move (.t 38)) .read 1,nK 39 (.extract (.t 28) 0) .read 1,nK 10 (.alloc 31 6 (.agg [.int .i64 0,.nsl,.nsl,.nsl,.nsl,.nsl])) .create 0,⟨none,.store 6 (.t 10) (.t 39),none,.write,2,false⟩,nK 40 (.extract (.t 28) 1) .read 1,nK 41 (.extract (.t 28) 2) .read 1,nK 11 (.move (.t 40)) .read 3,nK 12 (.move (.t 41)) .read 3])
 (.seq (.draw [oRM 42 0,oR 43 (.nilCheck (.t 42)),oRA 44 2 43,oRD 45 44,oRL 47 6 10,oRM 46 2,oR 48 (.indexAddr 6 (.t 45) (.t 46)),oS 6 48 47])
 (oQ [oM 49 0,oM 50 2,oM 51 11,oW 52 (.call (oF 64) [.t 49,.t 50,.t 51])]
 (oQ [oM 53 12,oM 6 53,oW 7 (.move (.c .nili))]
 .ret)))))))}
theorem c22:aD Tryz.prog Tryz.f22 .full=some t22:=by kernel_rfl
def G5:aI :=
 (oQ [oW 14 (.arith .lss (.t 13) (.t 12))]
 (.seq (.cond (.t 14) .skip (.exit 0))
 (.seq (.block 1 (oQ [oM 15 13,oM 6 15]
 (oQ [oW 7 (.move (oI (-2)))]
 (.seq (.seq (.draw [oRM 17 0,oRM 18 6,nK 19 (.call (oF 67) [.t 17,.t 18]) .create 0,oRL 20 2 3,nK 21 (.call (oF 66) [.t 19,.t 20]) .write 1,nK 16 (.move (.t 21)) .read 2,nK 22 (.extract (.t 16) 0) .read 2,nK 8 (.alloc 37 4 (.agg [.int .i64 0,.int .i64 0,.nsl,.int .i64 0])) .create 0,⟨none,.store 4 (.t 8) (.t 22),none,.write,3,false⟩,nK 23 (.extract (.t 16) 1) .read 2,nK 9 (.move (.t 23)) .read 4])
 (oQ [oM 24 9]
 (.cond (.t 24) (.region [oA 25 3 8,oD 26 25,oM 7 26]) .skip)))
 (.region [oM 27 5,oM 28 7,oW 29 (.buildSlice 3 1 (.int .i64 0) 1 [(0,.t 28)]),oW 30 (.append 3 1 8 (.t 27) (.t 29)),oM 5 30])))))
 (.region [oW 31 (.arith .add (.t 13) (oI 1)),oM 13 31]))))
def G6:aI :=
 (oQ [oM 32 5,oM 4 32]
 .ret)
def t23:aK:={ntmps:=33,results:=[.t 4],mode:=.full,body :=
 (oQ [oW 3 (.box 24 2 (.t 1)),oW 4 (.move (.c .nsl))]
 (oQ [oW 5 (.move (.c .nsl))]
 (.seq (oQ [oM 10 0,oW 11 (.call (oF 65) [.t 10]),oW 12 (.field 0 none (.t 11)),oW 13 (.move (oI 0))]
 (.block 0 (.loop G5)))
 G6)))}
theorem c23:aD Tryz.prog Tryz.f23 .full=some t23:=by kernel_rfl
def t24:aK:={ntmps:=32,results:=[.t 0],mode:=.pure,body :=
 (oQ [oW 0 (.move (oB false))]
 (oQ [oW 2 (.buildSlice 3 1 (.int .i64 0) 3 [(0,(oI (-1))),(1,oI 0),(2,oI 1)]),oM 1 2]
 (oQ [oM 3 1,oW 4 (.call (oF 27) [.t 3,oI 2]),oW 5 (.buildSlice 3 1 (.int .i64 0) 3 [(0,oI 2),(1,oI 1),(2,oI 0)]),oW 6 (.call (oF 68) [.t 4,.t 5]),oM 7 6,gM 8 1 7 true,gW 9 (.call (oF 28) [.t 8,oI 2]) 7 true,gW 10 (.arith .eql (.t 9) (oI 2)) 7 true,oW 11 (.pick (.t 7) (.t 10) (oB false)),oM 12 11,gM 13 1 12 true,gW 14 (.call (oF 26) [.t 13,oI 1]) 12 true,gW 15 (.buildSlice 3 1 (.int .i64 0) 2 [(0,oI 1),(1,oI 2)]) 12 true,gW 16 (.call (oF 68) [.t 14,.t 15]) 12 true,oW 17 (.pick (.t 12) (.t 16) (oB false)),oM 18 17,gW 19 (.build [.int .i64 0,.int .i64 0] [(0,1,oI 0),(1,1,oI 1)]) 18 true,gW 20 (.build [.int .i64 0,.int .i64 0] [(0,1,oI 1),(1,1,oI 2)]) 18 true,gW 21 (.buildSlice 76 2 (.agg [.int .i64 0,.int .i64 0]) 2 [(0,.t 19),(1,.t 20)]) 18 true,gW 22 (.build [.int .i64 0,.nsl] [(0,1,oI 3),(1,1,.t 21)]) 18 true,gM 23 1 18 true,gW 24 (.call (oF 25) [.t 22,.t 23]) 18 true,oW 25 (.pick (.t 18) (.t 24) (oB false)),oM 26 25,gW 27 (.buildSlice 3 1 (.int .i64 0) 2 [(0,oI 1),(1,oI 0)]) 26 true,gW 28 (.call (oF 27) [.t 27,oI 0]) 26 true,gW 29 (.len 1 (.t 28)) 26 true,gW 30 (.arith .eql (.t 29) (oI 0)) 26 true,oW 31 (.pick (.t 26) (.t 30) (oB false)),oM 0 31]
 .ret)))}
theorem c24:aD Tryz.prog Tryz.f24 .pure=some t24:=by kernel_rfl
def UA:aI :=
 (oQ [oW 11 (.arith .lss (.t 10) (.t 9))]
 (.seq (.cond (.t 11) .skip (.exit 0))
 (.seq (.block 1 (oQ [oM 12 10,oW 13 (.indexAddr 1 (.t 8) (.t 10)),oD 14 13,oM 6 12,oM 7 14]
 (.seq (.block 2 (oQ [oM 16 7,oW 17 (.arith .eql (.t 16) (oI (-1))),oM 15 17]
 (.cond (.t 15) (.region [oM 18 5,oW 19 (.arith .add (.t 18) (oI 1)),oM 5 19]) (oQ [oL 21 2 2,oM 22 7,oM 23 6,oW 24 (.call (oF 30) [.t 21,.t 22,.t 23]),oW 25 (.un .not (.t 24)),oM 20 25]
 (.cond (.t 20) (oQ [oW 4 (.move (oB false))]
 .ret) .skip)))))
 (oQ [oM 26 1,oM 27 6,oW 28 (.call (oF 28) [.t 26,.t 27]),oW 29 (.arith .lss (.t 28) (oI 0))]
 (.cond (.t 29) (oQ [oW 4 (.move (oB false))]
 .ret) .skip)))))
 (.region [oW 30 (.arith .add (.t 10) (oI 1)),oM 10 30]))))
def UB:aI :=
 (oQ [oM 31 1,oW 32 (.len 1 (.t 31)),oA 33 0 2,oD 34 33,oW 35 (.arith .eql (.t 32) (.t 34)),oM 36 35,gM 37 5 36 true,gW 38 (.arith .eql (.t 37) (oI 1)) 36 true,oW 39 (.pick (.t 36) (.t 38) (oB false)),oM 4 39]
 .ret)
def t25:aK:={ntmps:=40,results:=[.t 4],mode:=.pure,body :=
 (oQ [oW 2 (.box 66 2 (.t 0)),oW 4 (.move (oB false))]
 (oQ [oW 5 (.move (oI 0))]
 (.seq (oQ [oM 8 1,oW 9 (.len 1 (.t 8)),oW 10 (.move (oI 0))]
 (.block 0 (.loop UA)))
 UB)))}
theorem c25:aD Tryz.prog Tryz.f25 .pure=some t25:=by kernel_rfl
def F9:aI :=
 (oQ [oW 10 (.arith .lss (.t 9) (.t 8))]
 (.seq (.cond (.t 10) .skip (.exit 0))
 (.seq (.block 1 (oQ [oM 11 9,oM 6 11]
 (oQ [oM 12 0,oM 13 6,oW 14 (.call (oF 27) [.t 12,.t 13]),oM 15 1,oW 16 (.call (oF 69) [.t 14,.t 15])]
 (.cond (.t 16) (.region [oM 17 5,oM 18 6,oW 19 (.buildSlice 3 1 (.int .i64 0) 1 [(0,.t 18)]),oW 20 (.append 3 1 8 (.t 17) (.t 19)),oM 5 20]) .skip))))
 (.region [oW 21 (.arith .add (.t 9) (oI 1)),oM 9 21]))))
def CS:aI :=
 (oQ [oM 22 5,oM 4 22]
 .ret)
def t26:aK:={ntmps:=23,results:=[.t 4],mode:=.pure,body :=
 (oQ [oW 4 (.move (.c .nsl))]
 (oQ [oW 5 (.move (.c .nsl))]
 (.seq (oQ [oM 7 0,oW 8 (.len 1 (.t 7)),oW 9 (.move (oI 0))]
 (.block 0 (.loop F9)))
 CS)))}
theorem c26:aD Tryz.prog Tryz.f26 .pure=some t26:=by kernel_rfl
def F8:aI :=
 (.seq (oQ [oM 6 1,oW 7 (.arith .geq (.t 6) (oI 0)),oM 8 7,gM 9 1 8 true,gM 10 0 8 true,gW 11 (.len 1 (.t 10)) 8 true,gW 12 (.arith .lss (.t 9) (.t 11)) 8 true,oW 13 (.pick (.t 8) (.t 12) (oB false)),oM 14 13,gM 15 5 14 true,gW 16 (.len 1 (.t 15)) 14 true,gM 17 0 14 true,gW 18 (.len 1 (.t 17)) 14 true,gW 19 (.arith .lss (.t 16) (.t 18)) 14 true,oW 20 (.pick (.t 14) (.t 19) (oB false))]
 (.cond (.t 20) .skip (.exit 0)))
 (.block 1 (oQ [oM 21 5,oM 22 1,oW 23 (.buildSlice 3 1 (.int .i64 0) 1 [(0,.t 22)]),oW 24 (.append 3 1 8 (.t 21) (.t 23)),oM 5 24]
 (.seq (oQ [oM 25 0,oM 26 1,oW 27 (.indexAddr 1 (.t 25) (.t 26)),oD 28 27,oW 29 (.arith .eql (.t 28) (oI (-1)))]
 (.cond (.t 29) (oQ [oM 30 5,oM 4 30]
 .ret) .skip))
 (.region [oM 31 0,oM 32 1,oW 33 (.indexAddr 1 (.t 31) (.t 32)),oD 34 33,oM 1 34])))))
def Qc:aI :=
 (oQ [oW 4 (.move (.c .nsl))]
 .ret)
def t27:aK:={ntmps:=35,results:=[.t 4],mode:=.pure,body :=
 (oQ [oW 4 (.move (.c .nsl))]
 (oQ [oW 5 (.move (.c .nsl))]
 (.seq (.block 0 (.loop F8))
 Qc)))}
theorem c27:aD Tryz.prog Tryz.f27 .pure=some t27:=by kernel_rfl
def t28:aK:={ntmps:=10,results:=[.t 4],mode:=.pure,body :=
 (oQ [oW 4 (.move (oI 0))]
 (oQ [oM 5 0,oM 6 1,oW 7 (.call (oF 27) [.t 5,.t 6]),oW 8 (.len 1 (.t 7)),oW 9 (.arith .sub (.t 8) (oI 1)),oM 4 9]
 .ret))}
theorem c28:aD Tryz.prog Tryz.f28 .pure=some t28:=by kernel_rfl
def t29:aK:={ntmps:=29,results:=[.t 6],mode:=.pure,body :=
 (oQ [oW 3 (.box 66 2 (.t 0)),oW 6 (.move (oI 0))]
 (.seq (oQ [oL 9 2 3,oM 10 1,oW 11 (.call (oF 70) [.t 9,.t 10]),oW 12 (.un .not (.t 11)),oM 13 12,gL 14 2 3 13 false,gM 15 2 13 false,gW 16 (.call (oF 70) [.t 14,.t 15]) 13 false,gW 17 (.un .not (.t 16)) 13 false,oW 18 (.pick (.t 13) (oB true) (.t 17))]
 (.cond (.t 18) (oQ [oW 6 (.move (oI (-1)))]
 .ret) .skip))
 (.seq (oQ [oL 20 2 3,oM 21 1,oW 22 (.call (oF 71) [.t 20,.t 21]),oM 23 2,oW 24 (.lookup (.prim 1) (.int .i64 0) true (.t 22) (.t 23)),oM 19 24,oX 25 19 0,oX 26 19 1,oM 7 25,oM 8 26]
 (oQ [oM 27 8]
 (.cond (.t 27) (oQ [oM 28 7,oM 6 28]
 .ret) .skip)))
 (oQ [oW 6 (.move (oI (-1)))]
 .ret))))}
theorem c29:aD Tryz.prog Tryz.f29 .pure=some t29:=by kernel_rfl
def t30:aK:={ntmps:=12,results:=[.t 6],mode:=.pure,body :=
 (oQ [oW 3 (.box 66 2 (.t 0)),oW 6 (.move (oB false))]
 (oQ [oL 7 2 3,oM 8 1,oW 9 (.call (oF 55) [.t 7,.t 8]),oM 10 2,oW 11 (.call (oF 69) [.t 9,.t 10]),oM 6 11]
 .ret))}
theorem c30:aD Tryz.prog Tryz.f30 .pure=some t30:=by kernel_rfl
def t31:aK:={ntmps:=24,results:=[(.cell 2 (some 6))],mode:=.full,body :=
 (oQ [oW 1 (.box 31 6 (.t 0)),oW 2 (.alloc 31 6 (.agg [.int .i64 0,.nsl,.nsl,.nsl,.nsl,.nsl]))]
 (.seq (.draw [oRA 3 1 1,oRD 4 3,nK 5 (.call (oF 36) [.t 4]) .create 0,oRA 6 2 1,oRD 7 6,nK 8 (.call (oF 72) [.t 7]) .create 0,oRA 9 3 1,oRD 10 9,nK 11 (.call (oF 73) [.t 10]) .create 0,oRA 12 4 1,oRD 13 12,nK 14 (.call (oF 74) [.t 13]) .create 0,oRA 15 5 1,oRD 16 15,nK 17 (.call (oF 44) [.t 16]) .write 4,nK 18 (.fieldAddr 1 (.t 1)) .read 1,⟨none,.store 1 (.t 18) (.t 5),none,.write,5,false⟩,nK 19 (.fieldAddr 2 (.t 1)) .read 6,⟨none,.store 1 (.t 19) (.t 8),none,.write,6,false⟩,nK 20 (.fieldAddr 3 (.t 1)) .read 7,⟨none,.store 1 (.t 20) (.t 11),none,.write,7,false⟩,nK 21 (.fieldAddr 4 (.t 1)) .read 8,⟨none,.store 1 (.t 21) (.t 14),none,.write,8,false⟩,nK 22 (.fieldAddr 5 (.t 1)) .read 9,⟨none,.store 1 (.t 22) (.t 17),none,.write,9,false⟩])
 (oQ [oL 23 6 1,oS 6 2 23]
 .ret)))}
theorem c31:aD Tryz.prog Tryz.f31 .full=some t31:=by kernel_rfl
def t32:aK:={ntmps:=12,results:=[.t 4,.t 5],mode:=.pure,body :=
 (oQ [oW 2 (.box 31 6 (.t 0)),oW 3 (.box 24 2 (.t 1)),oW 4 (.move (oI 0)),oW 5 (.move (oB false))]
 (oQ [oA 6 3 2,oD 7 6,oL 8 2 3,oW 9 (.call (oF 75) [.t 7,.t 8,oF 76]),oX 10 9 0,oX 11 9 1,oM 4 10,oM 5 11]
 .ret))}
theorem c32:aD Tryz.prog Tryz.f32 .pure=some t32:=by kernel_rfl
def t33:aK:={ntmps:=12,results:=[.t 4,.t 5],mode:=.pure,body :=
 (oQ [oW 2 (.box 31 6 (.t 0)),oW 3 (.box 24 2 (.t 1)),oW 4 (.move (oI 0)),oW 5 (.move (oB false))]
 (oQ [oA 6 2 2,oD 7 6,oL 8 2 3,oW 9 (.call (oF 77) [.t 7,.t 8,oF 78]),oX 10 9 0,oX 11 9 1,oM 4 10,oM 5 11]
 .ret))}
theorem c33:aD Tryz.prog Tryz.f33 .pure=some t33:=by kernel_rfl
def t34:aK:={ntmps:=95,results:=[.t 6],mode:=.split,body :=
 (oQ [oW 6 (.move (.c .nsl))]
 (oQ [oM 10 0,oM 11 1,oW 12 (.sliceSl 4 (.t 10) (some (.t 11)) none)]
 (oQ [oM 13 2,oW 14 (.len 1 (.t 13)),oM 7 14]
 (.seq (oQ [oM 15 7,oW 16 (.arith .eql (.t 15) (oI 0))]
 (.cond (.t 16) (oQ [oM 17 0,oM 6 17]
 .ret) .skip))
 (oQ [oM 18 0,oW 19 (.len 1 (.t 18)),oM 8 19]
 (.seq (oQ [oM 20 1,oM 21 8,oW 22 (.arith .eql (.t 20) (.t 21))]
 (.cond (.t 22) (oQ [oM 23 0,oM 24 2,oW 25 (.append 37 4 48 (.t 23) (.t 24)),oM 6 25]
 .ret) .skip))
 (.seq (oQ [oM 26 8,oM 27 7,oW 28 (.arith .add (.t 26) (.t 27)),oM 29 0,oW 30 (.cap (.t 29)),oW 31 (.arith .gtr (.t 28) (.t 30))]
 (.cond (.t 31) (oQ [oM 32 0,oM 33 1,oW 34 (.sliceSl 4 (.t 32) none (some (.t 33))),oM 35 8,oM 36 7,oW 37 (.arith .add (.t 35) (.t 36)),oM 38 1,oW 39 (.arith .sub (.t 37) (.t 38)),oW 40 (.appendZ 37 4 48 (.agg [.int .i64 0,.int .i64 0,.nsl,.int .i64 0]) (.t 34) (.t 39)),oM 9 40]
 (oQ [oM 41 9,oM 42 1,oW 43 (.sliceSl 4 (.t 41) (some (.t 42)) none),oM 44 2,oW 45 (.copy 4 (.t 43) (.t 44))]
 (.seq (.draw [oRM 46 9,oRM 47 1,oRM 48 7,oR 49 (.arith .add (.t 47) (.t 48)),oR 50 (.sliceSl 4 (.t 46) (some (.t 49)) none),oRM 51 0,oRM 52 1,oR 53 (.sliceSl 4 (.t 51) (some (.t 52)) none),oW 54 (.copy 4 (.t 50) (.t 53))])
 (oQ [oM 55 9,oM 6 55]
 .ret)))) .skip))
 (oQ [oM 56 0,oM 57 8,oM 58 7,oW 59 (.arith .add (.t 57) (.t 58)),oW 60 (.sliceSl 4 (.t 56) none (some (.t 59))),oM 0 60]
 (.seq (oQ [oM 61 2,oM 62 0,oM 63 1,oM 64 7,oW 65 (.arith .add (.t 63) (.t 64)),oW 66 (.sliceSl 4 (.t 62) (some (.t 65)) none),oW 67 (.call (oF 79) [.t 61,.t 66]),oW 68 (.un .not (.t 67))]
 (.cond (.t 68) (.seq (.draw [oRM 69 0,oRM 70 1,oRM 71 7,oR 72 (.arith .add (.t 70) (.t 71)),oR 73 (.sliceSl 4 (.t 69) (some (.t 72)) none),oRM 74 0,oRM 75 1,oR 76 (.sliceSl 4 (.t 74) (some (.t 75)) none),oW 77 (.copy 4 (.t 73) (.t 76))])
 (oQ [oM 78 0,oM 79 1,oW 80 (.sliceSl 4 (.t 78) (some (.t 79)) none),oM 81 2,oW 82 (.copy 4 (.t 80) (.t 81))]
 (oQ [oM 83 0,oM 6 83]
 .ret))) .skip))
 (oQ [oM 84 0,oM 85 8,oW 86 (.sliceSl 4 (.t 84) (some (.t 85)) none),oM 87 2,oW 88 (.copy 4 (.t 86) (.t 87))]
 (oQ [oM 89 0,oM 90 1,oW 91 (.sliceSl 4 (.t 89) (some (.t 90)) none),oM 92 7,oW 93 (.call (oF 80) [.t 91,.t 92])]
 (oQ [oM 94 0,oM 6 94]
 .ret))))))))))))}
theorem c34:aD Tryz.prog Tryz.f34 .split=some t34:=by kernel_rfl
def t35:aK:={ntmps:=95,results:=[.t 6],mode:=.split,body :=
 (oQ [oW 6 (.move (.c .nsl))]
 (oQ [oM 10 0,oM 11 1,oW 12 (.sliceSl 2 (.t 10) (some (.t 11)) none)]
 (oQ [oM 13 2,oW 14 (.len 1 (.t 13)),oM 7 14]
 (.seq (oQ [oM 15 7,oW 16 (.arith .eql (.t 15) (oI 0))]
 (.cond (.t 16) (oQ [oM 17 0,oM 6 17]
 .ret) .skip))
 (oQ [oM 18 0,oW 19 (.len 1 (.t 18)),oM 8 19]
 (.seq (oQ [oM 20 1,oM 21 8,oW 22 (.arith .eql (.t 20) (.t 21))]
 (.cond (.t 22) (oQ [oM 23 0,oM 24 2,oW 25 (.append 24 2 16 (.t 23) (.t 24)),oM 6 25]
 .ret) .skip))
 (.seq (oQ [oM 26 8,oM 27 7,oW 28 (.arith .add (.t 26) (.t 27)),oM 29 0,oW 30 (.cap (.t 29)),oW 31 (.arith .gtr (.t 28) (.t 30))]
 (.cond (.t 31) (oQ [oM 32 0,oM 33 1,oW 34 (.sliceSl 2 (.t 32) none (some (.t 33))),oM 35 8,oM 36 7,oW 37 (.arith .add (.t 35) (.t 36)),oM 38 1,oW 39 (.arith .sub (.t 37) (.t 38)),oW 40 (.appendZ 24 2 16 (.agg [.int .i64 0,.int .i64 0]) (.t 34) (.t 39)),oM 9 40]
 (oQ [oM 41 9,oM 42 1,oW 43 (.sliceSl 2 (.t 41) (some (.t 42)) none),oM 44 2,oW 45 (.copy 2 (.t 43) (.t 44))]
 (.seq (.draw [oRM 46 9,oRM 47 1,oRM 48 7,oR 49 (.arith .add (.t 47) (.t 48)),oR 50 (.sliceSl 2 (.t 46) (some (.t 49)) none),oRM 51 0,oRM 52 1,oR 53 (.sliceSl 2 (.t 51) (some (.t 52)) none),oW 54 (.copy 2 (.t 50) (.t 53))])
 (oQ [oM 55 9,oM 6 55]
 .ret)))) .skip))
 (oQ [oM 56 0,oM 57 8,oM 58 7,oW 59 (.arith .add (.t 57) (.t 58)),oW 60 (.sliceSl 2 (.t 56) none (some (.t 59))),oM 0 60]
 (.seq (oQ [oM 61 2,oM 62 0,oM 63 1,oM 64 7,oW 65 (.arith .add (.t 63) (.t 64)),oW 66 (.sliceSl 2 (.t 62) (some (.t 65)) none),oW 67 (.call (oF 81) [.t 61,.t 66]),oW 68 (.un .not (.t 67))]
 (.cond (.t 68) (.seq (.draw [oRM 69 0,oRM 70 1,oRM 71 7,oR 72 (.arith .add (.t 70) (.t 71)),oR 73 (.sliceSl 2 (.t 69) (some (.t 72)) none),oRM 74 0,oRM 75 1,oR 76 (.sliceSl 2 (.t 74) (some (.t 75)) none),oW 77 (.copy 2 (.t 73) (.t 76))])
 (oQ [oM 78 0,oM 79 1,oW 80 (.sliceSl 2 (.t 78) (some (.t 79)) none),oM 81 2,oW 82 (.copy 2 (.t 80) (.t 81))]
 (oQ [oM 83 0,oM 6 83]
 .ret))) .skip))
 (oQ [oM 84 0,oM 85 8,oW 86 (.sliceSl 2 (.t 84) (some (.t 85)) none),oM 87 2,oW 88 (.copy 2 (.t 86) (.t 87))]
 (oQ [oM 89 0,oM 90 1,oW 91 (.sliceSl 2 (.t 89) (some (.t 90)) none),oM 92 7,oW 93 (.call (oF 82) [.t 91,.t 92])]
 (oQ [oM 94 0,oM 6 94]
 .ret))))))))))))}
theorem c35:aD Tryz.prog Tryz.f35 .split=some t35:=by kernel_rfl
def F7:aI :=
 (.seq (oQ [oM 29 5,oM 30 4,oW 31 (.len 1 (.t 30)),oW 32 (.arith .lss (.t 29) (.t 31))]
 (.cond (.t 32) .skip (.exit 2)))
 (.seq (.block 3 (.seq (.draw [oRM 35 4,oRM 36 5,oR 37 (.indexAddr 1 (.t 35) (.t 36)),oRD 38 37,oRM 39 4,oRM 40 5,oR 41 (.arith .sub (.t 40) (oI 1)),oR 42 (.indexAddr 1 (.t 39) (.t 41)),oRD 43 42,oR 44 (.arith .neq (.t 38) (.t 43))])
 (.cond (.t 44) (oQ [oM 45 0,oM 46 3,oM 47 4,oM 48 5,oW 49 (.indexAddr 1 (.t 47) (.t 48)),oD 50 49,oW 51 (.indexAddr 1 (.t 45) (.t 46)),oS 1 51 50]
 (.region [oM 52 3,oW 53 (.arith .add (.t 52) (oI 1)),oM 3 53])) .skip)))
 (.region [oM 33 5,oW 34 (.arith .add (.t 33) (oI 1)),oM 5 34])))
def NO:aI :=
 (oQ [oM 54 0,oM 55 3,oW 56 (.sliceSl 1 (.t 54) (some (.t 55)) none),oZ (.clear 1 (.int .i64 0) (.t 56))]
 (oQ [oM 57 0,oM 58 3,oW 59 (.sliceSl 1 (.t 57) none (some (.t 58))),oM 2 59]
 .ret))
def NN:aI :=
 (.region [oM 14 3,oW 15 (.arith .add (.t 14) (oI 1)),oM 3 15])
def F6:aI :=
 (.seq (oQ [oM 10 3,oM 11 0,oW 12 (.len 1 (.t 11)),oW 13 (.arith .lss (.t 10) (.t 12))]
 (.cond (.t 13) .skip (.exit 0)))
 (.seq (.block 1 (.seq (.draw [oRM 16 0,oRM 17 3,oR 18 (.indexAddr 1 (.t 16) (.t 17)),oRD 19 18,oRM 20 0,oRM 21 3,oR 22 (.arith .sub (.t 21) (oI 1)),oR 23 (.indexAddr 1 (.t 20) (.t 22)),oRD 24 23,oR 25 (.arith .eql (.t 19) (.t 24))])
 (.cond (.t 25) (oQ [oM 26 0,oM 27 3,oW 28 (.sliceSl 1 (.t 26) (some (.t 27)) none),oM 4 28]
 (.seq (oQ [oW 5 (.move (oI 1))]
 (.block 2 (.loop F7)))
 NO)) .skip)))
 NN))
def CR:aI :=
 (oQ [oM 60 0,oM 2 60]
 .ret)
def t38:aK:={ntmps:=61,results:=[.t 2],mode:=.full,body :=
 (oQ [oW 2 (.move (.c .nsl))]
 (.seq (oQ [oM 6 0,oW 7 (.len 1 (.t 6)),oW 8 (.arith .lss (.t 7) (oI 2))]
 (.cond (.t 8) (oQ [oM 9 0,oM 2 9]
 .ret) .skip))
 (.seq (oQ [oW 3 (.move (oI 1))]
 (.block 0 (.loop F6)))
 CR)))}
theorem c38:aD Tryz.prog Tryz.f38 .full=some t38:=by kernel_rfl
def t41:aK:={ntmps:=15,results:=[.t 4],mode:=.pure,body :=
 (oQ [oW 4 (.move (oI 0))]
 (.seq (oQ [oM 5 0,oW 6 (.len 1 (.t 5)),oW 7 (.arith .eql (.t 6) (oI 0))]
 (.cond (.t 7) (oQ [oW 4 (.move (oI 0))]
 .ret) .skip))
 (oQ [oM 8 0,oM 9 1,oM 10 0,oW 11 (.len 1 (.t 10)),oW 12 (.arith .rem (.t 9) (.t 11)),oW 13 (.indexAddr 1 (.t 8) (.t 12)),oD 14 13,oM 4 14]
 .ret)))}
theorem c41:aD Tryz.prog Tryz.f41 .pure=some t41:=by kernel_rfl
def t45:aK:={ntmps:=14,results:=[.t 4],mode:=.pure,body :=
 (oQ [oW 4 (.move (oB false))]
 (oQ [oM 8 0,oM 9 1,oW 10 (.call (oF 91) [.t 8,.t 9]),oM 7 10,oX 11 7 0,oX 12 7 1,oM 5 11,oM 6 12]
 (oQ [oM 13 6,oM 4 13]
 .ret)))}
theorem c45:aD Tryz.prog Tryz.f45 .pure=some t45:=by kernel_rfl
def t46:aK:={ntmps:=32,results:=[(.cell 4 (some 6)),.t 5],mode:=.frz,body :=
 (oQ [oW 2 (.box 31 6 (.t 0)),oW 3 (.box 58 7 (.t 1)),oW 4 (.alloc 31 6 (.agg [.int .i64 0,.nsl,.nsl,.nsl,.nsl,.nsl])),oW 5 (.move (.c .nsl))]
 (oQ [oL 10 6 2,oA 11 0 3,oL 12 2 11,oW 13 (.call (oF 66) [.t 10,.t 12]),oM 9 13,oX 14 9 0,oX 15 9 1,oW 6 (.alloc 37 4 (.agg [.int .i64 0,.int .i64 0,.nsl,.int .i64 0])),oS 4 6 14,oM 7 15]
 (oQ [oL 17 6 2,oL 18 7 3,oW 19 (.call (oF 92) [.t 17,.t 18]),oM 16 19,oX 20 16 0,oX 21 16 1,oS 6 2 20,oM 8 21]
 (.seq (oQ [oM 22 8,oW 23 (.un .not (.t 22))]
 (.cond (.t 23) (oQ [oL 24 6 2,oS 6 4 24,oW 5 (.move (.c .nsl))]
 .ret) .skip))
 (.seq (.draw [oRL 25 6 2,oRA 26 3 6,oRD 27 26,⟨(some 28),.load (some 7) (.t 3),none,.read,0,true⟩,nK 29 (.call (oF 93) [.t 28]) .create 0,⟨none,.store 6 (.t 4) (.t 25),none,.create,0,false⟩,nK 30 (.build [.int .i64 0,.int .i64 0,.int .i64 0,.int .i64 0,.int .i64 0,.int .i64 0,.nsl,.nsl] [(0,1,.t 27),(1,7,.t 29)]) .read 1,nK 31 (.buildSlice 54 8 (.agg [.int .i64 0,.int .i64 0,.int .i64 0,.int .i64 0,.int .i64 0,.int .i64 0,.nsl,.nsl]) 1 [(0,.t 30)]) .create 0,nK 5 (.move (.t 31)) .read 3])
 .ret)))))}
theorem c46:aD Tryz.prog Tryz.f46 .frz=some t46:=by kernel_rfl
def TY:aI :=
 (oQ [oW 38 (.arith .lss (.t 37) (.t 36))]
 (.seq (.cond (.t 38) .skip (.exit 0))
 (.seq (.block 1 (oQ [oW 39 (.indexAddr 7 (.t 35) (.t 37)),oL 40 7 39,oW 16 (.alloc 58 7 (.agg [.int .i64 0,.int .i64 0,.int .i64 0,.int .i64 0,.nsl,.int .i64 0,.bool false])),oS 7 16 40]
 (.draw [oRA 42 3 10,oRD 43 42,oRL 44 7 16,nK 45 (.call (oF 93) [.t 44]) .create 0,oRM 41 14,nK 46 (.build [.int .i64 0,.int .i64 0,.int .i64 0,.int .i64 0,.int .i64 0,.int .i64 0,.nsl,.nsl] [(0,1,.t 43),(1,7,.t 45)]) .read 1,nK 47 (.buildSlice 54 8 (.agg [.int .i64 0,.int .i64 0,.int .i64 0,.int .i64 0,.int .i64 0,.int .i64 0,.nsl,.nsl]) 1 [(0,.t 46)]) .create 0,nK 48 (.append 54 8 96 (.t 41) (.t 47)) .write 2,nK 14 (.move (.t 48)) .read 3])))
 (.region [oW 49 (.arith .add (.t 37) (oI 1)),oM 37 49]))))
def TZ:aI :=
 (.seq (.draw [oRL 50 6 4,oRA 52 3 10,oRD 53 52,oRL 54 2 5,oRL 55 2 6,oRM 51 14,oR 56 (.build [.int .i64 0,.int .i64 0,.int .i64 0,.int .i64 0,.int .i64 0,.nsl,.nsl] [(0,1,oI 4),(1,2,.t 54),(3,2,.t 55)]),oR 57 (.build [.int .i64 0,.int .i64 0,.int .i64 0,.int .i64 0,.int .i64 0,.int .i64 0,.nsl,.nsl] [(0,1,.t 53),(1,7,.t 56)]),nK 58 (.buildSlice 54 8 (.agg [.int .i64 0,.int .i64 0,.int .i64 0,.int .i64 0,.int .i64 0,.int .i64 0,.nsl,.nsl]) 1 [(0,.t 57)]) .create 0,nK 59 (.append 54 8 96 (.t 51) (.t 58)) .create 0,⟨none,.store 6 (.t 8) (.t 50),none,.write,2,false⟩,nK 9 (.move (.t 59)) .read 3])
 .ret)
def t48:aK:={ntmps:=60,results:=[(.cell 8 (some 6)),.t 9],mode:=.frz,body :=
 (oQ [oW 4 (.box 31 6 (.t 0)),oW 5 (.box 24 2 (.t 1)),oW 6 (.box 24 2 (.t 2)),oW 8 (.alloc 31 6 (.agg [.int .i64 0,.nsl,.nsl,.nsl,.nsl,.nsl])),oW 9 (.move (.c .nsl))]
 (oQ [oL 18 6 4,oL 19 2 5,oW 20 (.call (oF 66) [.t 18,.t 19]),oM 17 20,oX 21 17 0,oX 22 17 1,oW 10 (.alloc 37 4 (.agg [.int .i64 0,.int .i64 0,.nsl,.int .i64 0])),oS 4 10 21,oM 11 22]
 (oQ [oL 24 6 4,oL 25 2 5,oL 26 2 6,oM 27 3,oW 28 (.call (oF 94) [.t 24,.t 25,.t 26,.t 27]),oM 23 28,oX 29 23 0,oX 30 23 1,oX 31 23 2,oS 6 4 29,oM 12 30,oM 13 31]
 (.seq (oQ [oM 32 13,oW 33 (.un .not (.t 32))]
 (.cond (.t 33) (oQ [oL 34 6 4,oS 6 8 34,oW 9 (.move (.c .nsl))]
 .ret) .skip))
 (oQ [oW 14 (.move (.c .nsl))]
 (.seq (oQ [oM 35 12,oW 36 (.len 1 (.t 35)),oW 37 (.move (oI 0))]
 (.block 0 (.loop TY)))
 TZ))))))}
theorem c48:aD Tryz.prog Tryz.f48 .frz=some t48:=by kernel_rfl
def t49:aK:={ntmps:=45,results:=[.t 4],mode:=.pure,body :=
 (oQ [oW 2 (.box 98 5 (.t 0)),oW 3 (.box 98 5 (.t 1)),oW 4 (.move (oB false))]
 (.seq (oQ [oA 5 1 3,oD 6 5]
 (.block 0 (oQ [oW 8 (.arith .eql (.t 6) (oI 1)),oM 7 8]
 (.cond (.t 7) (oQ [oA 9 1 2,oD 10 9,oW 11 (.arith .eql (.t 10) (oI 1)),oM 12 11,gA 13 2 2 12 true,gD 14 13 12 true,gA 15 2 3 12 true,gD 16 15 12 true,gW 17 (.arith .leq (.t 14) (.t 16)) 12 true,oW 18 (.pick (.t 12) (.t 17) (oB false)),oM 19 18,gA 20 3 3 19 true,gD 21 20 19 true,gA 22 3 2 19 true,gD 23 22 19 true,gW 24 (.arith .leq (.t 21) (.t 23)) 19 true,oW 25 (.pick (.t 19) (.t 24) (oB false)),oM 4 25]
 .ret) (oQ [oW 27 (.arith .eql (.t 6) (oI 3)),oM 26 27]
 (.cond (.t 26) (oQ [oA 28 1 2,oD 29 28,oW 30 (.arith .eql (.t 29) (oI 3)),oM 31 30,gA 32 4 3 31 true,gD 33 32 31 true,gA 34 4 2 31 true,gD 35 34 31 true,gW 36 (.call (oF 95) [.t 33,.t 35]) 31 true,oW 37 (.pick (.t 31) (.t 36) (oB false)),oM 4 37]
 .ret) (oQ [oW 39 (.arith .eql (.t 6) (oI 2)),oM 38 39]
 (.cond (.t 38) (.seq (.draw [oRL 40 5 2,oRA 41 4 3,oRD 42 41,nK 43 (.call (oF 97) [.t 42]) .create 0,nK 44 (.call (oF 96) [.t 40,.t 43]) .write 1,nK 4 (.move (.t 44)) .read 2])
 .ret) .skip))))))))
 (oQ [oW 4 (.move (oB false))]
 .ret)))}
theorem c49:aD Tryz.prog Tryz.f49 .pure=some t49:=by kernel_rfl
def t50:aK:={ntmps:=37,results:=[],mode:=.full,body :=
 (oQ [oM 6 0,oM 7 1,oW 8 (.arith .neq (.t 6) (.t 7)),oM 9 8,gD 10 2 9 true,gM 11 0 9 true,gM 12 1 9 true,gW 13 (.build [.int .i64 0,.int .i64 0] [(0,1,.t 11),(1,1,.t 12)]) 9 true,gW 14 (.lookup (.agg [1,1]) (.bool false) false (.t 10) (.t 13)) 9 true,gW 15 (.un .not (.t 14)) 9 true,oW 16 (.pick (.t 9) (.t 15) (oB false)),oM 17 16,gD 18 2 17 true,gM 19 1 17 true,gM 20 0 17 true,gW 21 (.build [.int .i64 0,.int .i64 0] [(0,1,.t 19),(1,1,.t 20)]) 17 true,gW 22 (.lookup (.agg [1,1]) (.bool false) false (.t 18) (.t 21)) 17 true,gW 23 (.un .not (.t 22)) 17 true,oW 24 (.pick (.t 17) (.t 23) (oB false))]
 (.cond (.t 24) (oQ [oD 25 2,oM 26 0,oM 27 1,oW 28 (.build [.int .i64 0,.int .i64 0] [(0,1,.t 26),(1,1,.t 27)]),oZ (.mapUpdate (.agg [1,1]) (.t 25) (.t 28) (oB true))]
 (.region [oA 29 1 3,oD 30 29,oM 31 0,oM 32 1,oW 33 (.build [.int .i64 0,.int .i64 0] [(0,1,.t 31),(1,1,.t 32)]),oW 34 (.buildSlice 76 2 (.agg [.int .i64 0,.int .i64 0]) 1 [(0,.t 33)]),oW 35 (.append 76 2 16 (.t 30) (.t 34)),oA 36 1 3,oS 1 36 35])) .skip))}
theorem c50:aD Tryz.prog Tryz.f50 .full=some t50:=by kernel_rfl
def F0:aI :=
 (oQ [oW 11 (.arith .lss (.t 10) (.t 9))]
 (.seq (.cond (.t 11) .skip (.exit 0))
 (.seq (.block 1 (oQ [oM 12 10,oW 13 (.indexAddr 2 (.t 8) (.t 10)),oL 14 2 13,oW 5 (.alloc 76 2 (.agg [.int .i64 0,.int .i64 0])),oM 4 12,oS 2 5 14]
 (.seq (oQ [oL 15 2 1,oL 16 2 5,oW 17 (.call (oF 98) [.t 15,.t 16]),oW 18 (.un .not (.t 17)),oM 19 18,gM 20 3 19 false,gL 21 2 5 19 false,gW 22 (.call (oF 99) [.t 21]) 19 false,gW 23 (.lookup (.agg [1,1]) (.bool false) false (.t 20) (.t 22)) 19 false,oW 24 (.pick (.t 19) (oB true) (.t 23))]
 (.cond (.t 24) (oQ [oM 25 4,oW 26 (.makeIface 171 (oI 2)),oW 27 (.call (oF 52) [(.c (.str [103,114,97,112,104])),.t 25,.t 26]),oM 2 27]
 .ret) .skip))
 (.region [oM 28 3,oL 29 2 5,oW 30 (.call (oF 99) [.t 29]),oZ (.mapUpdate (.agg [1,1]) (.t 28) (.t 30) (oB true))]))))
 (.region [oW 31 (.arith .add (.t 10) (oI 1)),oM 10 31]))))
def F5:aI :=
 (.seq (.seq (.draw [oRA 32 0 1,oRD 33 32,oR 34 (.arith .lss (.t 33) (oI 1)),oRM 35 34,rA 36 0 1 35 false,rD 37 36 35 false,rW 38 (.arith .gtr (.t 37) (oI 64)) 35 false,oR 39 (.pick (.t 35) (oB true) (.t 38)),oRM 40 39,rA 41 1 1 40 false,rD 42 41 40 false,rW 43 (.len 1 (.t 42)) 40 false,rW 44 (.arith .gtr (.t 43) (oI 200)) 40 false,oR 45 (.pick (.t 40) (oB true) (.t 44)),oRM 46 45,rL 47 2 1 46 false,⟨(some 48),.call (oF 71) [.t 47,oI 0],(some (46,false)),.create,0,false⟩,⟨(some 49),.len 2 (.t 48),(some (46,false)),.read,1,false⟩,rA 50 0 1 46 false,rD 51 50 46 false,⟨(some 52),.arith .neq (.t 49) (.t 51),(some (46,false)),.read,1,false⟩,nK 53 (.pick (.t 46) (oB true) (.t 52)) .read 1])
 (.cond (.t 53) (oQ [oW 54 (.makeIface 171 (oI 2)),oW 55 (.call (oF 52) [(.c (.str [103,114,97,112,104])),(oI (-1)),.t 54]),oM 2 55]
 .ret) .skip))
 (oQ [oW 2 (.move (.c .nili))]
 .ret))
def t51:aK:={ntmps:=56,results:=[.t 2],mode:=.pure,body :=
 (oQ [oW 1 (.box 66 2 (.t 0)),oW 2 (.move (.c .nili))]
 (oQ [oW 6 (.makeMap),oM 3 6]
 (.seq (oQ [oA 7 1 1,oD 8 7,oW 9 (.len 1 (.t 8)),oW 10 (.move (oI 0))]
 (.block 0 (.loop F0)))
 F5)))}
theorem c51:aD Tryz.prog Tryz.f51 .pure=some t51:=by kernel_rfl
def t52:aK:={ntmps:=15,results:=[.t 6],mode:=.pure,body :=
 (oQ [oW 6 (.move (.c .nili))]
 (.seq (oQ [oM 7 2,oW 8 (.eqn 4 false (.t 7) (.c .nili))]
 (.cond (.t 8) (oQ [oW 6 (.move (.c .nili))]
 .ret) .skip))
 (oQ [oM 9 0,oM 10 1,oM 11 2,oW 12 (.build [.str [],.int .i64 0,.nili] [(0,1,.t 9),(1,1,.t 10),(2,1,.t 11)]),oW 13 (.box 174 3 (.t 12)),oW 14 (.makeIface 172 (.t 13)),oM 6 14]
 .ret)))}
theorem c52:aD Tryz.prog Tryz.f52 .pure=some t52:=by kernel_rfl
def t53:aK:={ntmps:=8,results:=[(.cell 2 (some 2))],mode:=.pure,body :=
 (oQ [oW 1 (.box 66 2 (.t 0)),oW 2 (.alloc 66 2 (.agg [.int .i64 0,.nsl]))]
 (oQ [oA 3 1 1,oD 4 3,oW 5 (.call (oF 100) [.t 4]),oA 6 1 1,oS 1 6 5]
 (oQ [oL 7 2 1,oS 2 2 7]
 .ret)))}
theorem c53:aD Tryz.prog Tryz.f53 .pure=some t53:=by kernel_rfl
end Go.Dm.Tc
