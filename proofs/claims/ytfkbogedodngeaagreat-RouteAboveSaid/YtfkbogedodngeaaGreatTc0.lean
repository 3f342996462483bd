/- A part of the proof. -/
import Derived.Test.YtfkbogedodngeaaGreatMm4
import Derived.Test.YtfkbogedodngeaaGreatRows
import Derived.KernelRfl
namespace Go.Dm.Tc
open Go.Proofs
abbrev oQ(l:List aJ)(c:aN):aN:=.seq (.region l) c
abbrev gW(d:Nat)(op:DOp)(g:Nat)(b:Bool):aJ:=⟨some d,op,some (g,b),.write,0,false⟩
abbrev gM(d x g:Nat)(b:Bool):aJ:=⟨some d,.move (.t x),some (g,b),.write,0,false⟩
abbrev gA(d o x g:Nat)(b:Bool):aJ:=⟨some d,.fieldAddr o (.t x),some (g,b),.write,0,false⟩
abbrev gD(d x g:Nat)(b:Bool):aJ:=⟨some d,.load none (.t x),some (g,b),.write,0,false⟩
abbrev gL(d n x g:Nat)(b:Bool):aJ:=⟨some d,.load (some n) (.t x),some (g,b),.write,0,false⟩
abbrev rW(d:Nat)(op:DOp)(g:Nat)(b:Bool):aJ:=⟨some d,op,some (g,b),.read,0,false⟩
abbrev rM(d x g:Nat)(b:Bool):aJ:=⟨some d,.move (.t x),some (g,b),.read,0,false⟩
abbrev rA(d o x g:Nat)(b:Bool):aJ:=⟨some d,.fieldAddr o (.t x),some (g,b),.read,0,false⟩
abbrev rD(d x g:Nat)(b:Bool):aJ:=⟨some d,.load none (.t x),some (g,b),.read,0,false⟩
abbrev rL(d n x g:Nat)(b:Bool):aJ:=⟨some d,.load (some n) (.t x),some (g,b),.read,0,false⟩
abbrev nK(d:Nat)(op:DOp)(k:sO)(s:Nat):aJ:=⟨some d,op,none,k,s,false⟩
def Wd:aN :=
 (.region [oM 180 18,oM 181 180,gM 182 20 181 false,gA 183 4 17 181 false,gD 184 183 181 false,gW 185 (.call (oF 15) [.t 182,.t 184]) 181 false,oW 186 (.pick (.t 181) (oB true) (.t 185)),oM 18 186])
def HX:aN :=
 (oQ [oM 187 18,oW 188 (.un .not (.t 187)),oM 189 188,gA 190 1 13 189 true,gA 191 0 190 189 true,gD 192 191 189 true,gW 193 (.arith .eql (.t 192) (oI 4)) 189 true,oW 194 (.pick (.t 189) (.t 193) (oB false))]
 (.cond (.t 194) (oQ [oW 2 (.move (oB false))]
 .ret) .skip))
def HW:aN :=
 (.region [oW 195 (.arith .add (.t 170) (oI 1)),oM 170 195])
def We:aN :=
 (oQ [oW 171 (.arith .lss (.t 170) (.t 169))]
 (.seq (.cond (.t 171) .skip (.exit 5))
 (.seq (.block 6 (oQ [oW 172 (.indexAddr 7 (.t 168) (.t 170)),oL 173 7 172,oW 17 (.alloc 58 7 (.agg [.int .i64 0,.int .i64 0,.int .i64 0,.int .i64 0,.nsl,.int .i64 0,.bool false])),oS 7 17 173]
 (oQ [oW 18 (.move (oB false))]
 (.seq (oQ [oM 174 6]
 (.walk (.t 174) 175 176 177 178 7 8 [175,176,177,178,186,185,184,183,182,181,180,20,179,178] [oX 179 178 1,oM 20 179] Wd))
 HX))))
 HW)))
def NL:aN :=
 (.region [oW 196 (.arith .add (.t 121) (oI 1)),oM 121 196])
def AY:aN :=
 (oQ [oW 122 (.arith .lss (.t 121) (.t 120))]
 (.seq (.cond (.t 122) .skip (.exit 3))
 (.seq (.block 4 (oQ [oW 123 (.indexAddr 8 (.t 119) (.t 121)),oL 124 8 123,oW 13 (.alloc 54 8 (.agg [.int .i64 0,.int .i64 0,.int .i64 0,.int .i64 0,.int .i64 0,.int .i64 0,.nsl,.nsl])),oS 8 13 124]
 (oQ [oM 126 6,oA 127 1 13,oA 128 3 127,oL 129 2 128,oW 130 (.lookup (.agg [1,1]) .nsl true (.t 126) (.t 129)),oM 125 130,oX 131 125 0,oX 132 125 1,oM 14 131,oM 15 132]
 (.seq (oQ [oA 133 0 13,oD 134 133,oW 135 (.arith .neq (.t 134) (oI 1)),oM 136 135,gA 137 1 13 136 false,gA 138 1 137 136 false,gL 139 2 138 136 false,gL 140 2 3 136 false,gW 141 (.eqa true [1,1] (.t 139) (.t 140)) 136 false,oW 142 (.pick (.t 136) (oB true) (.t 141)),oM 143 142,gM 144 15 143 false,gA 145 1 13 143 false,gA 146 0 145 143 false,gD 147 146 143 false,gW 148 (.arith .eql (.t 147) (oI 4)) 143 false,gW 149 (.eqb true (.t 144) (.t 148)) 143 false,oW 150 (.pick (.t 143) (oB true) (.t 149))]
 (.cond (.t 150) (oQ [oW 2 (.move (oB false))]
 .ret) .skip))
 (.seq (oQ [oA 151 1 13,oA 152 0 151,oD 153 152,oW 154 (.arith .eql (.t 153) (oI 4))]
 (.cond (.t 154) (.region [oM 155 6,oA 156 1 13,oA 157 3 156,oL 158 2 157,oZ (.delete (.agg [1,1]) (.t 155) (.t 158))]) (.region [oM 159 6,oA 160 1 13,oA 161 3 160,oL 162 2 161,oA 163 1 13,oA 164 5 163,oD 165 164,oZ (.mapUpdate (.agg [1,1]) (.t 159) (.t 162) (.t 165))])))
 (oQ [oL 166 6 4,oL 167 2 3,oW 168 (.call (oF 14) [.t 166,.t 167]),oW 169 (.len 1 (.t 168)),oW 170 (.move (oI 0))]
 (.block 5 (.loop We))))))))
 NL)))
def Wc:aN :=
 (.region [oM 211 23,oM 212 211,gM 213 25 212 false,gA 214 4 22 212 false,gD 215 214 212 false,gW 216 (.call (oF 15) [.t 213,.t 215]) 212 false,oW 217 (.pick (.t 212) (oB true) (.t 216)),oM 23 217])
def HV:aN :=
 (oQ [oM 219 6,oA 220 2 22,oL 221 2 220,oW 222 (.lookup (.agg [1,1]) .nsl true (.t 219) (.t 221)),oM 218 222,oX 223 218 0,oX 224 218 1,oM 26 223,oM 27 224]
 (oQ [oM 225 23,oW 226 (.un .not (.t 225)),oM 227 226,gM 228 27 227 false,gA 229 6 22 227 false,gD 230 229 227 false,gW 231 (.eqb true (.t 228) (.t 230)) 227 false,oW 232 (.pick (.t 227) (oB true) (.t 231))]
 (.cond (.t 232) (oQ [oW 2 (.move (oB false))]
 .ret) .skip)))
def HU:aN :=
 (.region [oW 233 (.arith .add (.t 201) (oI 1)),oM 201 233])
def L3:aN :=
 (oQ [oW 202 (.arith .lss (.t 201) (.t 200))]
 (.seq (.cond (.t 202) .skip (.exit 9))
 (.seq (.block 10 (oQ [oW 203 (.indexAddr 7 (.t 199) (.t 201)),oL 204 7 203,oW 22 (.alloc 58 7 (.agg [.int .i64 0,.int .i64 0,.int .i64 0,.int .i64 0,.nsl,.int .i64 0,.bool false])),oS 7 22 204]
 (oQ [oW 23 (.move (oB false))]
 (.seq (oQ [oM 205 6]
 (.walk (.t 205) 206 207 208 209 11 12 [206,207,208,209,217,216,215,214,213,212,211,25,210,209] [oX 210 209 1,oM 25 210] Wc))
 HV))))
 HU)))
def BA:aN :=
 (oQ [oL 197 6 4,oL 198 2 3,oW 199 (.call (oF 14) [.t 197,.t 198]),oW 200 (.len 1 (.t 199)),oW 201 (.move (oI 0))]
 (.block 9 (.loop L3)))
def HT:aN :=
 (.seq (oQ [oM 119 11,oW 120 (.len 1 (.t 119)),oW 121 (.move (oI 0))]
 (.block 3 (.loop AY)))
 BA)
def NK:aN :=
 (.region [oM 48 7,oW 49 (.arith .add (.t 48) (oI 1)),oM 7 49])
def AX:aN :=
 (.seq (oQ [oM 40 7,oM 41 0,oW 42 (.len 1 (.t 41)),oW 43 (.arith .lss (.t 40) (.t 42)),oM 44 43,gM 45 7 44 true,gW 46 (.arith .lss (.t 45) (oI 15)) 44 true,oW 47 (.pick (.t 44) (.t 46) (oB false))]
 (.cond (.t 47) .skip (.exit 0)))
 (.seq (.block 1 (oQ [oM 50 0,oM 51 7,oW 52 (.indexAddr 7 (.t 50) (.t 51)),oL 53 7 52,oW 8 (.alloc 42 7 (.agg [.int .i64 0,.int .i64 0,.int .i64 0,.int .i64 0,.int .i64 0,.nsl,.nsl])),oS 7 8 53]
 (.seq (.draw [oRA 54 3 8,oRD 55 54,nK 56 (.call (oF 8) [.t 55,oI 0,oI 3]) .create 0,oRA 57 4 8,oRD 58 57,nK 59 (.call (oF 8) [.t 58,oI 0,oI 1]) .write 1,nK 60 (.build [.int .i64 0,.int .i64 0] [(0,1,.t 56),(1,1,.t 59)]) .read 2,nK 9 (.alloc 24 2 (.agg [.int .i64 0,.int .i64 0])) .create 0,⟨none,.store 2 (.t 9) (.t 60),none,.write,3,false⟩])
 (oQ [oA 61 5 8,oL 62 2 61,oW 63 (.call (oF 9) [.t 62]),oM 10 63]
 (oQ [oW 11 (.move (.c .nsl))]
 (.seq (oQ [oA 64 0 8,oD 65 64,oW 66 (.call (oF 8) [.t 65,oI 0,oI 3])]
 (.block 2 (oQ [oW 84 (.arith .eql (.t 66) (oI 0)),oM 83 84]
 (.cond (.t 83) (.region [oL 86 6 4,oL 87 2 9,oM 88 10,oW 89 (.call (oF 10) [.t 86,.t 87,.t 88]),oM 85 89,oX 90 85 0,oX 91 85 1,oS 6 4 90,oM 11 91]) (oQ [oW 93 (.arith .eql (.t 66) (oI 1)),oM 92 93]
 (.cond (.t 92) (.region [oL 95 6 4,oL 96 2 9,oW 97 (.call (oF 11) [.t 95,.t 96]),oM 94 97,oX 98 94 0,oX 99 94 1,oS 6 4 98,oM 11 99]) (oQ [oW 101 (.arith .eql (.t 66) (oI 2)),oM 100 101]
 (.cond (.t 100) (oQ [oA 102 0 9,oD 103 102,oW 104 (.arith .add (.t 103) (oI 8)),oA 105 0 9,oS 1 105 104]
 (.region [oL 107 6 4,oA 108 1 8,oD 109 108,oW 110 (.arith .and (.t 109) (oI 1)),oW 111 (.arith .add (oI 2) (.t 110)),oL 112 2 3,oL 113 2 9,oM 114 10,oW 115 (.build [.int .i64 0,.int .i64 0,.int .i64 0,.int .i64 0,.int .i64 0,.nsl,.nsl] [(0,1,oI 3),(1,2,.t 112),(3,2,.t 113),(5,1,.t 114)]),oW 116 (.call (oF 12) [.t 107,.t 111,.t 115]),oM 106 116,oX 117 106 0,oX 118 106 1,oS 6 4 117,oM 11 118])) (oQ [oA 67 0 9,oD 68 67,oW 69 (.arith .add (.t 68) (oI 8)),oA 70 0 9,oS 1 70 69]
 (.region [oL 72 6 4,oA 73 1 8,oD 74 73,oW 75 (.arith .and (.t 74) (oI 1)),oW 76 (.arith .add (oI 2) (.t 75)),oL 77 2 3,oL 78 2 9,oW 79 (.build [.int .i64 0,.int .i64 0,.int .i64 0,.int .i64 0,.int .i64 0,.nsl,.nsl] [(0,1,oI 4),(1,2,.t 77),(3,2,.t 78)]),oW 80 (.call (oF 13) [.t 72,.t 76,.t 79]),oM 71 80,oX 81 71 0,oX 82 71 1,oS 6 4 81,oM 11 82]))))))))))
 HT))))))
 NK))
def AZ:aN :=
 (oQ [oM 234 6,oW 235 (.len 2 (.t 234)),oA 236 4 4,oD 237 236,oW 238 (.len 1 (.t 237)),oW 239 (.arith .leq (.t 235) (.t 238)),oM 240 239,gW 241 (.call (oF 16) []) 240 true,oW 242 (.pick (.t 240) (.t 241) (oB false)),oM 2 242]
 .ret)
def t3:aV:={ntmps:=243,results:=[.t 2],mode:=.pure,body :=
 (oQ [oW 2 (.move (oB false))]
 (oQ [oW 28 (.build [.int .i64 0,.int .i64 0] [(0,1,oI 1)]),oW 3 (.alloc 24 2 (.agg [.int .i64 0,.int .i64 0])),oS 2 3 28]
 (.seq (.draw [nK 30 (.buildSlice 3 1 (.int .i64 0) 3 [(0,oI 1),(1,oI 2),(2,oI 3)]) .create 0,nK 31 (.call (oF 7) [oI 0,.t 30]) .create 0,oRL 32 2 3,oR 33 (.build [.int .i64 0,.int .i64 0,.nsl,.int .i64 0] [(0,2,.t 32),(3,1,oI 1)]),nK 34 (.call (oF 6) [.t 31,.t 33]) .write 2,nK 29 (.move (.t 34)) .read 3,nK 35 (.extract (.t 29) 0) .read 3,nK 4 (.alloc 31 6 (.agg [.int .i64 0,.nsl,.nsl,.nsl,.nsl,.nsl])) .create 0,⟨none,.store 6 (.t 4) (.t 35),none,.write,4,false⟩,nK 36 (.extract (.t 29) 1) .read 3,nK 5 (.move (.t 36)) .read 5])
 (.seq (oQ [oM 37 5,oW 38 (.un .not (.t 37))]
 (.cond (.t 38) (oQ [oW 2 (.move (oB false))]
 .ret) .skip))
 (oQ [oW 39 (.makeMap),oM 6 39]
 (.seq (oQ [oW 7 (.move (oI 0))]
 (.block 0 (.loop AX)))
 AZ))))))}
theorem c3:aK Tryz.prog Tryz.f3 .pure=some t3:=by kernel_rfl
def t6:aV:={ntmps:=44,results:=[(.cell 4 (some 6)),.t 5],mode:=.frz,body :=
 (oQ [oW 2 (.box 31 6 (.t 0)),oW 3 (.box 37 4 (.t 1)),oW 4 (.alloc 31 6 (.agg [.int .i64 0,.nsl,.nsl,.nsl,.nsl,.nsl])),oW 5 (.move (oB false))]
 (oQ [oL 10 6 2,oW 11 (.call (oF 31) [.t 10]),oS 6 2 11]
 (oQ [oL 13 6 2,oA 14 0 3,oL 15 2 14,oW 16 (.call (oF 32) [.t 13,.t 15]),oM 12 16,oX 17 12 0,oX 18 12 1,oM 6 17,oM 7 18]
 (.seq (oQ [oM 19 7]
 (.cond (.t 19) (oQ [oL 20 6 2,oS 6 4 20,oW 5 (.move (oB false))]
 .ret) .skip))
 (oQ [oL 22 6 2,oA 23 0 3,oL 24 2 23,oW 25 (.call (oF 33) [.t 22,.t 24]),oM 21 25,oX 26 21 0,oX 27 21 1,oM 8 26,oM 9 27]
 (oQ [oA 28 2 2,oD 29 28,oM 30 8,oL 31 4 3,oW 32 (.buildSlice 37 4 (.agg [.int .i64 0,.int .i64 0,.nsl,.int .i64 0]) 1 [(0,.t 31)]),oW 33 (.call (oF 34) [.t 29,.t 30,.t 32]),oA 34 2 2,oS 1 34 33]
 (oQ [oA 35 3 2,oD 36 35,oM 37 6,oA 38 0 3,oL 39 2 38,oW 40 (.buildSlice 24 2 (.agg [.int .i64 0,.int .i64 0]) 1 [(0,.t 39)]),oW 41 (.call (oF 35) [.t 36,.t 37,.t 40]),oA 42 3 2,oS 1 42 41]
 (oQ [oL 43 6 2,oS 6 4 43,oW 5 (.move (oB true))]
 .ret))))))))}
theorem c6:aK Tryz.prog Tryz.f6 .frz=some t6:=by kernel_rfl
def t7:aV:={ntmps:=14,results:=[(.cell 4 (some 6))],mode:=.pure,body :=
 (oQ [oW 4 (.alloc 31 6 (.agg [.int .i64 0,.nsl,.nsl,.nsl,.nsl,.nsl]))]
 (oQ [oM 6 1,oW 7 (.call (oF 36) [.t 6]),oM 5 7]
 (oQ [oM 8 5,oW 9 (.call (oF 37) [.t 8])]
 (oQ [oM 10 0,oM 11 5,oW 12 (.call (oF 38) [.t 11]),oW 13 (.build [.int .i64 0,.nsl,.nsl,.nsl,.nsl,.nsl] [(0,1,.t 10),(1,1,.t 12)]),oS 6 4 13]
 .ret))))}
theorem c7:aK Tryz.prog Tryz.f7 .pure=some t7:=by kernel_rfl
def t8:aV:={ntmps:=24,results:=[.t 6],mode:=.pure,body :=
 (oQ [oW 6 (.move (oI 0))]
 (oQ [oM 7 0,oM 8 2,oM 9 1,oW 10 (.arith .sub (.t 8) (.t 9)),oW 11 (.arith .add (.t 10) (oI 1)),oW 12 (.arith .rem (.t 7) (.t 11)),oM 0 12]
 (.seq (oQ [oM 13 0,oW 14 (.arith .lss (.t 13) (oI 0))]
 (.cond (.t 14) (.region [oM 15 0,oM 16 2,oW 17 (.arith .add (.t 15) (.t 16)),oM 18 1,oW 19 (.arith .sub (.t 17) (.t 18)),oW 20 (.arith .add (.t 19) (oI 1)),oM 0 20]) .skip))
 (oQ [oM 21 1,oM 22 0,oW 23 (.arith .add (.t 21) (.t 22)),oM 6 23]
 .ret))))}
theorem c8:aK Tryz.prog Tryz.f8 .pure=some t8:=by kernel_rfl
def HR:aN :=
 (oQ [oW 9 (.arith .lss (.t 8) (.t 7))]
 (.seq (.cond (.t 9) .skip (.exit 0))
 (.seq (.block 1 (oQ [oM 10 8,oW 11 (.indexAddr 1 (.t 6) (.t 8)),oD 12 11,oM 4 10,oM 5 12]
 (oQ [oM 13 4,oA 14 0 1,oD 15 14,oW 16 (.len 1 (.t 15)),oW 17 (.arith .lss (.t 13) (.t 16)),oM 18 17,gA 19 0 1 18 true,gD 20 19 18 true,gM 21 4 18 true,gW 22 (.indexAddr 1 (.t 20) (.t 21)) 18 true,gD 23 22 18 true,gW 24 (.arith .and (.t 23) (oI 1)) 18 true,gW 25 (.arith .eql (.t 24) (oI 1)) 18 true,oW 26 (.pick (.t 18) (.t 25) (oB false)),oM 27 26,gM 28 3 27 true,gW 29 (.len 1 (.t 28)) 27 true,gW 30 (.arith .lss (.t 29) (oI 5)) 27 true,oW 31 (.pick (.t 27) (.t 30) (oB false))]
 (.cond (.t 31) (.region [oM 32 3,oM 33 5,oA 34 1 1,oD 35 34,oM 36 4,oW 37 (.call (oF 41) [.t 35,.t 36]),oW 38 (.call (oF 40) [.t 33,.t 37]),oW 39 (.buildSlice 98 5 (.agg [.str [],.int .i64 0,.int .i64 0,.int .i64 0,.str []]) 1 [(0,.t 38)]),oW 40 (.append 98 5 56 (.t 32) (.t 39)),oM 3 40]) .skip))))
 (.region [oW 41 (.arith .add (.t 8) (oI 1)),oM 8 41]))))
def NJ:aN :=
 (oQ [oM 42 3,oM 2 42]
 .ret)
def t9:aV:={ntmps:=43,results:=[.t 2],mode:=.pure,body :=
 (oQ [oW 1 (.box 40 2 (.t 0)),oW 2 (.move (.c .nsl))]
 (oQ [oW 3 (.move (.c .nsl))]
 (.seq (oQ [oW 6 (.call (oF 39) []),oW 7 (.len 1 (.t 6)),oW 8 (.move (oI 0))]
 (.block 0 (.loop HR)))
 NJ)))}
theorem c9:aK Tryz.prog Tryz.f9 .pure=some t9:=by kernel_rfl
def Ej:aN :=
 (oQ [oW 37 (.arith .lss (.t 36) (.t 35))]
 (.seq (.cond (.t 37) .skip (.exit 0))
 (.seq (.block 1 (oQ [oW 38 (.indexAddr 4 (.t 34) (.t 36)),oL 39 4 38,oW 12 (.alloc 37 4 (.agg [.int .i64 0,.int .i64 0,.nsl,.int .i64 0])),oS 4 12 39]
 (.seq (oQ [oM 40 2,oA 41 2 12,oD 42 41,oW 43 (.call (oF 45) [.t 40,.t 42]),oW 44 (.un .not (.t 43))]
 (.cond (.t 44) (.exit 1) .skip))
 (oQ [oL 46 6 3,oA 47 0 12,oL 48 2 47,oL 49 2 4,oM 50 2,oW 51 (.build [.int .i64 0,.int .i64 0,.int .i64 0,.int .i64 0,.nsl,.int .i64 0,.bool false] [(0,2,.t 48),(2,2,.t 49),(4,1,.t 50),(5,1,(oI (-1)))]),oW 52 (.call (oF 46) [.t 46,.t 51]),oM 45 52,oX 53 45 0,oX 54 45 1,oW 13 (.alloc 31 6 (.agg [.int .i64 0,.nsl,.nsl,.nsl,.nsl,.nsl])),oS 6 13 53,oM 14 54]
 (.draw [oRL 55 6 13,oRM 56 10,oRM 57 14,nK 58 (.append 54 8 96 (.t 56) (.t 57)) .create 0,⟨none,.store 6 (.t 3) (.t 55),none,.write,1,false⟩,nK 10 (.move (.t 58)) .read 2])))))
 (.region [oW 59 (.arith .add (.t 36) (oI 1)),oM 36 59]))))
def Qi:aN :=
 (oQ [oL 60 6 3,oM 61 10,oS 6 6 60,oM 7 61]
 .ret)
def t10:aV:={ntmps:=62,results:=[(.cell 6 (some 6)),.t 7],mode:=.frz,body :=
 (oQ [oW 3 (.box 31 6 (.t 0)),oW 4 (.box 24 2 (.t 1)),oW 6 (.alloc 31 6 (.agg [.int .i64 0,.nsl,.nsl,.nsl,.nsl,.nsl])),oW 7 (.move (.c .nsl))]
 (oQ [oL 16 6 3,oL 17 2 4,oW 18 (.call (oF 42) [.t 16,.t 17]),oM 15 18,oX 19 15 0,oX 20 15 1,oM 8 19,oM 9 20]
 (.seq (oQ [oM 21 9]
 (.cond (.t 21) (oQ [oL 22 6 3,oS 6 6 22,oW 7 (.move (.c .nsl))]
 .ret) .skip))
 (.seq (.draw [oRA 23 5 3,oRD 24 23,nK 25 (.call (oF 44) [.t 24]) .create 0,oRL 27 2 4,oRM 26 8,oRM 28 2,oR 29 (.build [.int .i64 0,.int .i64 0,.nsl] [(0,2,.t 27),(2,1,.t 28)]),nK 30 (.buildSlice 102 3 (.agg [.int .i64 0,.int .i64 0,.nsl]) 1 [(0,.t 29)]) .create 0,nK 31 (.call (oF 43) [.t 25,.t 26,.t 30]) .write 2,nK 32 (.fieldAddr 5 (.t 3)) .read 3,⟨none,.store 1 (.t 32) (.t 31),none,.write,3,false⟩])
 (oQ [oW 10 (.move (.c .nsl))]
 (.seq (oQ [oA 33 2 3,oD 34 33,oW 35 (.len 1 (.t 34)),oW 36 (.move (oI 0))]
 (.block 0 (.loop Ej)))
 Qi))))))}
theorem c10:aK Tryz.prog Tryz.f10 .frz=some t10:=by kernel_rfl
def Ei:aN :=
 (oQ [oW 34 (.arith .lss (.t 33) (.t 32))]
 (.seq (.cond (.t 34) .skip (.exit 0))
 (.seq (.block 1 (oQ [oW 35 (.indexAddr 4 (.t 31) (.t 33)),oL 36 4 35,oW 10 (.alloc 37 4 (.agg [.int .i64 0,.int .i64 0,.nsl,.int .i64 0])),oS 4 10 36]
 (oQ [oL 38 6 2,oA 39 0 10,oL 40 2 39,oL 41 2 3,oW 42 (.call (oF 48) [.t 38,.t 40,.t 41,(oI (-1))]),oM 37 42,oX 43 37 0,oX 44 37 1,oW 11 (.alloc 31 6 (.agg [.int .i64 0,.nsl,.nsl,.nsl,.nsl,.nsl])),oS 6 11 43,oM 12 44]
 (.draw [oRL 45 6 11,oRM 46 8,oRM 47 12,nK 48 (.append 54 8 96 (.t 46) (.t 47)) .create 0,⟨none,.store 6 (.t 2) (.t 45),none,.write,1,false⟩,nK 8 (.move (.t 48)) .read 2]))))
 (.region [oW 49 (.arith .add (.t 33) (oI 1)),oM 33 49]))))
def Qh:aN :=
 (oQ [oL 50 6 2,oM 51 8,oS 6 4 50,oM 5 51]
 .ret)
def t11:aV:={ntmps:=52,results:=[(.cell 4 (some 6)),.t 5],mode:=.frz,body :=
 (oQ [oW 2 (.box 31 6 (.t 0)),oW 3 (.box 24 2 (.t 1)),oW 4 (.alloc 31 6 (.agg [.int .i64 0,.nsl,.nsl,.nsl,.nsl,.nsl])),oW 5 (.move (.c .nsl))]
 (oQ [oL 14 6 2,oL 15 2 3,oW 16 (.call (oF 42) [.t 14,.t 15]),oM 13 16,oX 17 13 0,oX 18 13 1,oM 6 17,oM 7 18]
 (.seq (oQ [oM 19 7,oW 20 (.un .not (.t 19))]
 (.cond (.t 20) (oQ [oL 21 6 2,oS 6 4 21,oW 5 (.move (.c .nsl))]
 .ret) .skip))
 (oQ [oA 22 5 2,oD 23 22,oW 24 (.call (oF 44) [.t 23]),oM 25 6,oM 26 6,oW 27 (.arith .add (.t 26) (oI 1)),oW 28 (.call (oF 47) [.t 24,.t 25,.t 27]),oA 29 5 2,oS 1 29 28]
 (oQ [oW 8 (.move (.c .nsl))]
 (.seq (oQ [oA 30 2 2,oD 31 30,oW 32 (.len 1 (.t 31)),oW 33 (.move (oI 0))]
 (.block 0 (.loop Ei)))
 Qh))))))}
theorem c11:aK Tryz.prog Tryz.f11 .frz=some t11:=by kernel_rfl
def t12:aV:={ntmps:=20,results:=[(.cell 6 (some 6)),.t 7],mode:=.frz,body :=
 (oQ [oW 3 (.box 31 6 (.t 0)),oW 5 (.box 52 7 (.t 2)),oW 6 (.alloc 31 6 (.agg [.int .i64 0,.nsl,.nsl,.nsl,.nsl,.nsl])),oW 7 (.move (.c .nsl))]
 (oQ [oL 8 6 3,oA 9 1 5,oL 10 2 9,oA 11 3 5,oL 12 2 11,oA 13 5 5,oD 14 13,oM 15 1,oW 16 (.build [.int .i64 0,.int .i64 0,.int .i64 0,.int .i64 0,.nsl,.int .i64 0,.bool false] [(0,2,.t 10),(2,2,.t 12),(4,1,.t 14),(5,1,.t 15)]),oW 17 (.call (oF 46) [.t 8,.t 16]),oX 18 17 0,oX 19 17 1,oS 6 6 18,oM 7 19]
 .ret))}
theorem c12:aK Tryz.prog Tryz.f12 .frz=some t12:=by kernel_rfl
def t13:aV:={ntmps:=17,results:=[(.cell 6 (some 6)),.t 7],mode:=.frz,body :=
 (oQ [oW 3 (.box 31 6 (.t 0)),oW 5 (.box 52 7 (.t 2)),oW 6 (.alloc 31 6 (.agg [.int .i64 0,.nsl,.nsl,.nsl,.nsl,.nsl])),oW 7 (.move (.c .nsl))]
 (oQ [oL 8 6 3,oA 9 1 5,oL 10 2 9,oA 11 3 5,oL 12 2 11,oM 13 1,oW 14 (.call (oF 48) [.t 8,.t 10,.t 12,.t 13]),oX 15 14 0,oX 16 14 1,oS 6 6 15,oM 7 16]
 .ret))}
theorem c13:aK Tryz.prog Tryz.f13 .frz=some t13:=by kernel_rfl
def D1:aN :=
 (oQ [oW 12 (.arith .lss (.t 11) (.t 10))]
 (.seq (.cond (.t 12) .skip (.exit 0))
 (.seq (.block 1 (oQ [oW 13 (.indexAddr 7 (.t 9) (.t 11)),oL 14 7 13,oW 7 (.alloc 58 7 (.agg [.int .i64 0,.int .i64 0,.int .i64 0,.int .i64 0,.nsl,.int .i64 0,.bool false])),oS 7 7 14]
 (oQ [oA 15 0 7,oL 16 2 15,oL 17 2 3,oW 18 (.eqa false [1,1] (.t 16) (.t 17))]
 (.cond (.t 18) (.region [oM 19 5,oL 20 7 7,oW 21 (.buildSlice 58 7 (.agg [.int .i64 0,.int .i64 0,.int .i64 0,.int .i64 0,.nsl,.int .i64 0,.bool false]) 1 [(0,.t 20)]),oW 22 (.append 58 7 72 (.t 19) (.t 21)),oM 5 22]) .skip))))
 (.region [oW 23 (.arith .add (.t 11) (oI 1)),oM 11 23]))))
def BC:aN :=
 (oQ [oM 24 5,oM 4 24]
 .ret)
def t14:aV:={ntmps:=25,results:=[.t 4],mode:=.pure,body :=
 (oQ [oW 2 (.box 31 6 (.t 0)),oW 3 (.box 24 2 (.t 1)),oW 4 (.move (.c .nsl))]
 (oQ [oW 5 (.move (.c .nsl))]
 (.seq (oQ [oA 8 4 2,oD 9 8,oW 10 (.len 1 (.t 9)),oW 11 (.move (oI 0))]
 (.block 0 (.loop D1)))
 BC)))}
theorem c14:aK Tryz.prog Tryz.f14 .pure=some t14:=by kernel_rfl
def C9:aN :=
 (oQ [oW 16 (.arith .lss (.t 15) (.t 14))]
 (.seq (.cond (.t 16) .skip (.exit 0))
 (.seq (.block 1 (oQ [oW 17 (.indexAddr 5 (.t 13) (.t 15)),oL 18 5 17,oW 7 (.alloc 98 5 (.agg [.str [],.int .i64 0,.int .i64 0,.int .i64 0,.str []])),oS 5 7 18]
 (.region [oM 19 5,oA 20 0 7,oD 21 20,oL 22 5 7,oZ (.mapUpdate (.prim 2) (.t 19) (.t 21) (.t 22))])))
 (.region [oW 23 (.arith .add (.t 15) (oI 1)),oM 15 23]))))
def C8:aN :=
 (oQ [oW 27 (.arith .lss (.t 26) (.t 25))]
 (.seq (.cond (.t 27) .skip (.exit 2))
 (.seq (.block 3 (oQ [oW 28 (.indexAddr 5 (.t 24) (.t 26)),oL 29 5 28,oW 9 (.alloc 98 5 (.agg [.str [],.int .i64 0,.int .i64 0,.int .i64 0,.str []])),oS 5 9 29]
 (oQ [oM 31 5,oA 32 0 9,oD 33 32,oW 34 (.lookup (.prim 2) (.agg [.str [],.int .i64 0,.int .i64 0,.int .i64 0,.str []]) true (.t 31) (.t 33)),oM 30 34,oX 35 30 0,oX 36 30 1,oW 10 (.alloc 98 5 (.agg [.str [],.int .i64 0,.int .i64 0,.int .i64 0,.str []])),oS 5 10 35,oM 11 36]
 (oQ [oM 37 11,oW 38 (.un .not (.t 37)),oM 39 38,gL 40 5 9 39 false,gL 41 5 10 39 false,gW 42 (.call (oF 49) [.t 40,.t 41]) 39 false,gW 43 (.un .not (.t 42)) 39 false,oW 44 (.pick (.t 39) (oB true) (.t 43))]
 (.cond (.t 44) (oQ [oW 4 (.move (oB false))]
 .ret) .skip)))))
 (.region [oW 45 (.arith .add (.t 26) (oI 1)),oM 26 45]))))
def BB:aN :=
 (oQ [oW 4 (.move (oB true))]
 .ret)
def D0:aN :=
 (.seq (oQ [oM 24 0,oW 25 (.len 1 (.t 24)),oW 26 (.move (oI 0))]
 (.block 2 (.loop C8)))
 BB)
def t15:aV:={ntmps:=46,results:=[.t 4],mode:=.pure,body :=
 (oQ [oW 4 (.move (oB false))]
 (oQ [oW 12 (.makeMap),oM 5 12]
 (.seq (oQ [oM 13 1,oW 14 (.len 1 (.t 13)),oW 15 (.move (oI 0))]
 (.block 0 (.loop C9)))
 D0)))}
theorem c15:aK Tryz.prog Tryz.f15 .pure=some t15:=by kernel_rfl
def t16:aV:={ntmps:=95,results:=[.t 0],mode:=.pure,body :=
 (oQ [oW 0 (.move (oB false))]
 (oQ [oW 10 (.build [.int .i64 0,.int .i64 0] [(0,1,oI 3)]),oW 11 (.build [.int .i64 0,.int .i64 0] [(0,1,oI 4)]),oW 12 (.build [.int .i64 0,.int .i64 0] [(0,1,oI 5)]),oW 1 (.alloc 24 2 (.agg [.int .i64 0,.int .i64 0])),oW 2 (.alloc 24 2 (.agg [.int .i64 0,.int .i64 0])),oW 3 (.alloc 24 2 (.agg [.int .i64 0,.int .i64 0])),oS 2 1 10,oS 2 2 11,oS 2 3 12]
 (.seq (.draw [nK 14 (.buildSlice 3 1 (.int .i64 0) 2 [(0,oI 1),(1,oI 2)]) .create 0,nK 15 (.call (oF 7) [oI 0,.t 14]) .create 0,oRL 16 2 1,oR 17 (.build [.int .i64 0,.int .i64 0,.nsl,.int .i64 0] [(0,2,.t 16),(3,1,oI 1)]),nK 18 (.call (oF 6) [.t 15,.t 17]) .write 2,nK 13 (.move (.t 18)) .read 3,nK 19 (.extract (.t 13) 0) .read 3,nK 4 (.alloc 31 6 (.agg [.int .i64 0,.nsl,.nsl,.nsl,.nsl,.nsl])) .create 0,⟨none,.store 6 (.t 4) (.t 19),none,.write,4,false⟩,nK 20 (.extract (.t 13) 1) .read 3,nK 5 (.move (.t 20)) .read 5])
 (oQ [oL 22 6 4,oL 23 2 2,oW 24 (.call (oF 10) [.t 22,.t 23,.c .nsl]),oM 21 24,oX 25 21 0,oX 26 21 1,oS 6 4 25,oM 6 26]
 (oQ [oL 28 6 4,oL 29 2 1,oL 30 2 3,oW 31 (.build [.int .i64 0,.int .i64 0,.int .i64 0,.int .i64 0,.int .i64 0,.nsl,.nsl] [(0,1,oI 3),(1,2,.t 29),(3,2,.t 30)]),oW 32 (.call (oF 12) [.t 28,oI 2,.t 31]),oM 27 32,oX 33 27 0,oX 34 27 1,oS 6 4 33,oM 7 34]
 (oQ [oL 36 6 4,oL 37 2 2,oW 38 (.call (oF 11) [.t 36,.t 37]),oM 35 38,oX 39 35 0,oX 40 35 1,oW 8 (.alloc 31 6 (.agg [.int .i64 0,.nsl,.nsl,.nsl,.nsl,.nsl])),oS 6 8 39,oM 9 40]
 (.seq (.draw [oRM 41 6,oR 42 (.len 1 (.t 41)),oR 43 (.arith .eql (.t 42) (oI 1)),oRM 44 43,rM 45 6 44 true,rW 46 (.indexAddr 8 (.t 45) (oI 0)) 44 true,rA 47 0 46 44 true,rD 48 47 44 true,rW 49 (.arith .eql (.t 48) (oI 1)) 44 true,oR 50 (.pick (.t 44) (.t 49) (oB false)),oRM 51 50,rM 52 7 51 true,rW 53 (.len 1 (.t 52)) 51 true,rW 54 (.arith .eql (.t 53) (oI 0)) 51 true,oR 55 (.pick (.t 51) (.t 54) (oB false)),oRM 56 55,rM 57 9 56 true,rW 58 (.len 1 (.t 57)) 56 true,rW 59 (.arith .eql (.t 58) (oI 2)) 56 true,oR 60 (.pick (.t 56) (.t 59) (oB false)),oRM 61 60,rM 62 9 61 true,rW 63 (.indexAddr 8 (.t 62) (oI 0)) 61 true,rA 64 1 63 61 true,rA 65 0 64 61 true,rD 66 65 61 true,rW 67 (.arith .eql (.t 66) (oI 3)) 61 true,oR 68 (.pick (.t 61) (.t 67) (oB false)),oRM 69 68,rM 70 9 69 true,rW 71 (.indexAddr 8 (.t 70) (oI 0)) 69 true,rA 72 1 71 69 true,rA 73 3 72 69 true,rL 74 2 73 69 true,rL 75 2 3 69 true,rW 76 (.eqa false [1,1] (.t 74) (.t 75)) 69 true,oR 77 (.pick (.t 69) (.t 76) (oB false)),oRM 78 77,rM 79 9 78 true,rW 80 (.indexAddr 8 (.t 79) (oI 1)) 78 true,rA 81 1 80 78 true,rA 82 0 81 78 true,rD 83 82 78 true,rW 84 (.arith .eql (.t 83) (oI 4)) 78 true,oR 85 (.pick (.t 78) (.t 84) (oB false)),oRM 86 85,rM 87 9 86 true,rW 88 (.indexAddr 8 (.t 87) (oI 1)) 86 true,rA 89 1 88 86 true,rA 90 3 89 86 true,rL 91 2 90 86 true,rL 92 2 2 86 true,rW 93 (.eqa false [1,1] (.t 91) (.t 92)) 86 true,oR 94 (.pick (.t 86) (.t 93) (oB false)),oRM 0 94])
 .ret)))))))}
theorem c16:aK Tryz.prog Tryz.f16 .pure=some t16:=by kernel_rfl
def t31:aV:={ntmps:=24,results:=[(.cell 2 (some 6))],mode:=.full,body :=
 (oQ [oW 1 (.box 31 6 (.t 0)),oW 2 (.alloc 31 6 (.agg [.int .i64 0,.nsl,.nsl,.nsl,.nsl,.nsl]))]
 (.seq (.draw [oRA 3 1 1,oRD 4 3,nK 5 (.call (oF 36) [.t 4]) .create 0,oRA 6 2 1,oRD 7 6,nK 8 (.call (oF 72) [.t 7]) .create 0,oRA 9 3 1,oRD 10 9,nK 11 (.call (oF 73) [.t 10]) .create 0,oRA 12 4 1,oRD 13 12,nK 14 (.call (oF 74) [.t 13]) .create 0,oRA 15 5 1,oRD 16 15,nK 17 (.call (oF 44) [.t 16]) .write 4,nK 18 (.fieldAddr 1 (.t 1)) .read 1,⟨none,.store 1 (.t 18) (.t 5),none,.write,5,false⟩,nK 19 (.fieldAddr 2 (.t 1)) .read 6,⟨none,.store 1 (.t 19) (.t 8),none,.write,6,false⟩,nK 20 (.fieldAddr 3 (.t 1)) .read 7,⟨none,.store 1 (.t 20) (.t 11),none,.write,7,false⟩,nK 21 (.fieldAddr 4 (.t 1)) .read 8,⟨none,.store 1 (.t 21) (.t 14),none,.write,8,false⟩,nK 22 (.fieldAddr 5 (.t 1)) .read 9,⟨none,.store 1 (.t 22) (.t 17),none,.write,9,false⟩])
 (oQ [oL 23 6 1,oS 6 2 23]
 .ret)))}
theorem c31:aK Tryz.prog Tryz.f31 .full=some t31:=by kernel_rfl
def t32:aV:={ntmps:=12,results:=[.t 4,.t 5],mode:=.pure,body :=
 (oQ [oW 2 (.box 31 6 (.t 0)),oW 3 (.box 24 2 (.t 1)),oW 4 (.move (oI 0)),oW 5 (.move (oB false))]
 (oQ [oA 6 3 2,oD 7 6,oL 8 2 3,oW 9 (.call (oF 75) [.t 7,.t 8,oF 76]),oX 10 9 0,oX 11 9 1,oM 4 10,oM 5 11]
 .ret))}
theorem c32:aK Tryz.prog Tryz.f32 .pure=some t32:=by kernel_rfl
def t33:aV:={ntmps:=12,results:=[.t 4,.t 5],mode:=.pure,body :=
 (oQ [oW 2 (.box 31 6 (.t 0)),oW 3 (.box 24 2 (.t 1)),oW 4 (.move (oI 0)),oW 5 (.move (oB false))]
 (oQ [oA 6 2 2,oD 7 6,oL 8 2 3,oW 9 (.call (oF 77) [.t 7,.t 8,oF 78]),oX 10 9 0,oX 11 9 1,oM 4 10,oM 5 11]
 .ret))}
theorem c33:aK Tryz.prog Tryz.f33 .pure=some t33:=by kernel_rfl
def t34:aV:={ntmps:=95,results:=[.t 6],mode:=.split,body :=
 (oQ [oW 6 (.move (.c .nsl))]
 (oQ [oM 10 0,oM 11 1,oW 12 (.sliceSl 4 (.t 10) (some (.t 11)) none)]
 (oQ [oM 13 2,oW 14 (.len 1 (.t 13)),oM 7 14]
 (.seq (oQ [oM 15 7,oW 16 (.arith .eql (.t 15) (oI 0))]
 (.cond (.t 16) (oQ [oM 17 0,oM 6 17]
 .ret) .skip))
 (oQ [oM 18 0,oW 19 (.len 1 (.t 18)),oM 8 19]
 (.seq (oQ [oM 20 1,oM 21 8,oW 22 (.arith .eql (.t 20) (.t 21))]
 (.cond (.t 22) (oQ [oM 23 0,oM 24 2,oW 25 (.append 37 4 48 (.t 23) (.t 24)),oM 6 25]
 .ret) .skip))
 (.seq (oQ [oM 26 8,oM 27 7,oW 28 (.arith .add (.t 26) (.t 27)),oM 29 0,oW 30 (.cap (.t 29)),oW 31 (.arith .gtr (.t 28) (.t 30))]
 (.cond (.t 31) (oQ [oM 32 0,oM 33 1,oW 34 (.sliceSl 4 (.t 32) none (some (.t 33))),oM 35 8,oM 36 7,oW 37 (.arith .add (.t 35) (.t 36)),oM 38 1,oW 39 (.arith .sub (.t 37) (.t 38)),oW 40 (.appendZ 37 4 48 (.agg [.int .i64 0,.int .i64 0,.nsl,.int .i64 0]) (.t 34) (.t 39)),oM 9 40]
 (oQ [oM 41 9,oM 42 1,oW 43 (.sliceSl 4 (.t 41) (some (.t 42)) none),oM 44 2,oW 45 (.copy 4 (.t 43) (.t 44))]
 (.seq (.draw [oRM 46 9,oRM 47 1,oRM 48 7,oR 49 (.arith .add (.t 47) (.t 48)),oR 50 (.sliceSl 4 (.t 46) (some (.t 49)) none),oRM 51 0,oRM 52 1,oR 53 (.sliceSl 4 (.t 51) (some (.t 52)) none),oW 54 (.copy 4 (.t 50) (.t 53))])
 (oQ [oM 55 9,oM 6 55]
 .ret)))) .skip))
 (oQ [oM 56 0,oM 57 8,oM 58 7,oW 59 (.arith .add (.t 57) (.t 58)),oW 60 (.sliceSl 4 (.t 56) none (some (.t 59))),oM 0 60]
 (.seq (oQ [oM 61 2,oM 62 0,oM 63 1,oM 64 7,oW 65 (.arith .add (.t 63) (.t 64)),oW 66 (.sliceSl 4 (.t 62) (some (.t 65)) none),oW 67 (.call (oF 79) [.t 61,.t 66]),oW 68 (.un .not (.t 67))]
 (.cond (.t 68) (.seq (.draw [oRM 69 0,oRM 70 1,oRM 71 7,oR 72 (.arith .add (.t 70) (.t 71)),oR 73 (.sliceSl 4 (.t 69) (some (.t 72)) none),oRM 74 0,oRM 75 1,oR 76 (.sliceSl 4 (.t 74) (some (.t 75)) none),oW 77 (.copy 4 (.t 73) (.t 76))])
 (oQ [oM 78 0,oM 79 1,oW 80 (.sliceSl 4 (.t 78) (some (.t 79)) none),oM 81 2,oW 82 (.copy 4 (.t 80) (.t 81))]
 (oQ [oM 83 0,oM 6 83]
 .ret))) .skip))
 (oQ [oM 84 0,oM 85 8,oW 86 (.sliceSl 4 (.t 84) (some (.t 85)) none),oM 87 2,oW 88 (.copy 4 (.t 86) (.t 87))]
 (oQ [oM 89 0,oM 90 1,oW 91 (.sliceSl 4 (.t 89) (some (.t 90)) none),oM 92 7,oW 93 (.call (oF 80) [.t 91,.t 92])]
 (oQ [oM 94 0,oM 6 94]
 .ret))))))))))))}
theorem c34:aK Tryz.prog Tryz.f34 .split=some t34:=by kernel_rfl
def t35:aV:={ntmps:=95,results:=[.t 6],mode:=.split,body :=
 (oQ [oW 6 (.move (.c .nsl))]
 (oQ [oM 10 0,oM 11 1,oW 12 (.sliceSl 2 (.t 10) (some (.t 11)) none)]
 (oQ [oM 13 2,oW 14 (.len 1 (.t 13)),oM 7 14]
 (.seq (oQ [oM 15 7,oW 16 (.arith .eql (.t 15) (oI 0))]
 (.cond (.t 16) (oQ [oM 17 0,oM 6 17]
 .ret) .skip))
 (oQ [oM 18 0,oW 19 (.len 1 (.t 18)),oM 8 19]
 (.seq (oQ [oM 20 1,oM 21 8,oW 22 (.arith .eql (.t 20) (.t 21))]
 (.cond (.t 22) (oQ [oM 23 0,oM 24 2,oW 25 (.append 24 2 16 (.t 23) (.t 24)),oM 6 25]
 .ret) .skip))
 (.seq (oQ [oM 26 8,oM 27 7,oW 28 (.arith .add (.t 26) (.t 27)),oM 29 0,oW 30 (.cap (.t 29)),oW 31 (.arith .gtr (.t 28) (.t 30))]
 (.cond (.t 31) (oQ [oM 32 0,oM 33 1,oW 34 (.sliceSl 2 (.t 32) none (some (.t 33))),oM 35 8,oM 36 7,oW 37 (.arith .add (.t 35) (.t 36)),oM 38 1,oW 39 (.arith .sub (.t 37) (.t 38)),oW 40 (.appendZ 24 2 16 (.agg [.int .i64 0,.int .i64 0]) (.t 34) (.t 39)),oM 9 40]
 (oQ [oM 41 9,oM 42 1,oW 43 (.sliceSl 2 (.t 41) (some (.t 42)) none),oM 44 2,oW 45 (.copy 2 (.t 43) (.t 44))]
 (.seq (.draw [oRM 46 9,oRM 47 1,oRM 48 7,oR 49 (.arith .add (.t 47) (.t 48)),oR 50 (.sliceSl 2 (.t 46) (some (.t 49)) none),oRM 51 0,oRM 52 1,oR 53 (.sliceSl 2 (.t 51) (some (.t 52)) none),oW 54 (.copy 2 (.t 50) (.t 53))])
 (oQ [oM 55 9,oM 6 55]
 .ret)))) .skip))
 (oQ [oM 56 0,oM 57 8,oM 58 7,oW 59 (.arith .add (.t 57) (.t 58)),oW 60 (.sliceSl 2 (.t 56) none (some (.t 59))),oM 0 60]
 (.seq (oQ [oM 61 2,oM 62 0,oM 63 1,oM 64 7,oW 65 (.arith .add (.t 63) (.t 64)),oW 66 (.sliceSl 2 (.t 62) (some (.t 65)) none),oW 67 (.call (oF 81) [.t 61,.t 66]),oW 68 (.un .not (.t 67))]
 (.cond (.t 68) (.seq (.draw [oRM 69 0,oRM 70 1,oRM 71 7,oR 72 (.arith .add (.t 70) (.t 71)),oR 73 (.sliceSl 2 (.t 69) (some (.t 72)) none),oRM 74 0,oRM 75 1,oR 76 (.sliceSl 2 (.t 74) (some (.t 75)) none),oW 77 (.copy 2 (.t 73) (.t 76))])
 (oQ [oM 78 0,oM 79 1,oW 80 (.sliceSl 2 (.t 78) (some (.t 79)) none),oM 81 2,oW 82 (.copy 2 (.t 80) (.t 81))]
 (oQ [oM 83 0,oM 6 83]
 .ret))) .skip))
 (oQ [oM 84 0,oM 85 8,oW 86 (.sliceSl 2 (.t 84) (some (.t 85)) none),oM 87 2,oW 88 (.copy 2 (.t 86) (.t 87))]
 (oQ [oM 89 0,oM 90 1,oW 91 (.sliceSl 2 (.t 89) (some (.t 90)) none),oM 92 7,oW 93 (.call (oF 82) [.t 91,.t 92])]
 (oQ [oM 94 0,oM 6 94]
 .ret))))))))))))}
theorem c35:aK Tryz.prog Tryz.f35 .split=some t35:=by kernel_rfl
def QE:aN :=
 (.seq (oQ [oM 29 5,oM 30 4,oW 31 (.len 1 (.t 30)),oW 32 (.arith .lss (.t 29) (.t 31))]
 (.cond (.t 32) .skip (.exit 2)))
 (.seq (.block 3 (.seq (.draw [oRM 35 4,oRM 36 5,oR 37 (.indexAddr 1 (.t 35) (.t 36)),oRD 38 37,oRM 39 4,oRM 40 5,oR 41 (.arith .sub (.t 40) (oI 1)),oR 42 (.indexAddr 1 (.t 39) (.t 41)),oRD 43 42,oR 44 (.arith .neq (.t 38) (.t 43))])
 (.cond (.t 44) (oQ [oM 45 0,oM 46 3,oM 47 4,oM 48 5,oW 49 (.indexAddr 1 (.t 47) (.t 48)),oD 50 49,oW 51 (.indexAddr 1 (.t 45) (.t 46)),oS 1 51 50]
 (.region [oM 52 3,oW 53 (.arith .add (.t 52) (oI 1)),oM 3 53])) .skip)))
 (.region [oM 33 5,oW 34 (.arith .add (.t 33) (oI 1)),oM 5 34])))
def QH:aN :=
 (oQ [oM 54 0,oM 55 3,oW 56 (.sliceSl 1 (.t 54) (some (.t 55)) none),oZ (.clear 1 (.int .i64 0) (.t 56))]
 (oQ [oM 57 0,oM 58 3,oW 59 (.sliceSl 1 (.t 57) none (some (.t 58))),oM 2 59]
 .ret))
def QG:aN :=
 (.region [oM 14 3,oW 15 (.arith .add (.t 14) (oI 1)),oM 3 15])
def QD:aN :=
 (.seq (oQ [oM 10 3,oM 11 0,oW 12 (.len 1 (.t 11)),oW 13 (.arith .lss (.t 10) (.t 12))]
 (.cond (.t 13) .skip (.exit 0)))
 (.seq (.block 1 (.seq (.draw [oRM 16 0,oRM 17 3,oR 18 (.indexAddr 1 (.t 16) (.t 17)),oRD 19 18,oRM 20 0,oRM 21 3,oR 22 (.arith .sub (.t 21) (oI 1)),oR 23 (.indexAddr 1 (.t 20) (.t 22)),oRD 24 23,oR 25 (.arith .eql (.t 19) (.t 24))])
 (.cond (.t 25) (oQ [oM 26 0,oM 27 3,oW 28 (.sliceSl 1 (.t 26) (some (.t 27)) none),oM 4 28]
 (.seq (oQ [oW 5 (.move (oI 1))]
 (.block 2 (.loop QE)))
 QH)) .skip)))
 QG))
def QF:aN :=
 (oQ [oM 60 0,oM 2 60]
 .ret)
def t38:aV:={ntmps:=61,results:=[.t 2],mode:=.full,body :=
 (oQ [oW 2 (.move (.c .nsl))]
 (.seq (oQ [oM 6 0,oW 7 (.len 1 (.t 6)),oW 8 (.arith .lss (.t 7) (oI 2))]
 (.cond (.t 8) (oQ [oM 9 0,oM 2 9]
 .ret) .skip))
 (.seq (oQ [oW 3 (.move (oI 1))]
 (.block 0 (.loop QD)))
 QF)))}
theorem c38:aK Tryz.prog Tryz.f38 .full=some t38:=by kernel_rfl
def t39:aV:={ntmps:=2,results:=[.t 0],mode:=.pure,body :=
 (oQ [oW 0 (.move (.c .nsl))]
 (oQ [oW 1 (.buildSlice 9 1 (.str []) 7 [(0,(.c (.str [97]))),(1,(.c (.str [98]))),(2,(.c (.str [99]))),(3,(.c (.str [100]))),(4,(.c (.str [101]))),(5,(.c (.str [102]))),(6,(.c (.str [103])))]),oM 0 1]
 .ret))}
theorem c39:aK Tryz.prog Tryz.f39 .pure=some t39:=by kernel_rfl
def t40:aV:={ntmps:=44,results:=[(.cell 4 (some 5))],mode:=.pure,body :=
 (oQ [oW 4 (.alloc 98 5 (.agg [.str [],.int .i64 0,.int .i64 0,.int .i64 0,.str []]))]
 (oQ [oM 6 0,oW 7 (.build [.str [],.int .i64 0,.int .i64 0,.int .i64 0,.str []] [(0,1,.t 6)]),oW 5 (.alloc 98 5 (.agg [.str [],.int .i64 0,.int .i64 0,.int .i64 0,.str []])),oS 5 5 7]
 (.seq (oQ [oM 8 1,oW 9 (.call (oF 8) [.t 8,oI 0,oI 3])]
 (.block 0 (.seq (oQ [oW 19 (.arith .eql (.t 9) (oI 0)),oM 18 19]
 (.cond (.t 18) .skip (.region [oW 20 (.arith .eql (.t 9) (oI 1)),oM 18 20])))
 (.cond (.t 18) (oQ [oM 21 1,oW 22 (.arith .quo (.t 21) (oI 4)),oW 23 (.call (oF 8) [.t 22,oI 0,oI 9]),oA 24 1 5,oZ (.store 1 (.t 24) (oI 1)),oA 25 2 5,oS 1 25 23]
 (.draw [oRA 26 2 5,oRD 27 26,oRM 28 1,oR 29 (.arith .quo (.t 28) (oI 40)),nK 30 (.call (oF 8) [.t 29,oI 0,oI 9]) .create 0,nK 31 (.arith .add (.t 27) (.t 30)) .read 1,nK 32 (.fieldAddr 3 (.t 5)) .read 1,⟨none,.store 1 (.t 32) (.t 31),none,.write,1,false⟩])) (oQ [oW 34 (.arith .eql (.t 9) (oI 2)),oM 33 34]
 (.cond (.t 33) (.draw [oW 35 (.call (oF 85) []),oRM 36 1,oR 37 (.arith .quo (.t 36) (oI 4)),nK 38 (.call (oF 8) [.t 37,oI 0,oI 6]) .write 1,nK 39 (.indexAddr 1 (.t 35) (.t 38)) .read 2,nK 40 (.load none (.t 39)) .read 2,oRA 41 1 5,⟨none,.store 1 (.t 41) (oI 2),none,.create,2,false⟩,nK 42 (.fieldAddr 4 (.t 5)) .read 3,⟨none,.store 1 (.t 42) (.t 40),none,.write,3,false⟩]) (.draw [oW 10 (.call (oF 85) []),oRM 11 1,oR 12 (.arith .quo (.t 11) (oI 4)),nK 13 (.call (oF 8) [.t 12,oI 0,oI 6]) .write 1,nK 14 (.indexAddr 1 (.t 10) (.t 13)) .read 2,nK 15 (.load none (.t 14)) .read 2,oRA 16 1 5,⟨none,.store 1 (.t 16) (oI 3),none,.create,2,false⟩,nK 17 (.fieldAddr 4 (.t 5)) .read 3,⟨none,.store 1 (.t 17) (.t 15),none,.write,3,false⟩])))))))
 (oQ [oL 43 5 5,oS 5 4 43]
 .ret))))}
theorem c40:aK Tryz.prog Tryz.f40 .pure=some t40:=by kernel_rfl
def t41:aV:={ntmps:=15,results:=[.t 4],mode:=.pure,body :=
 (oQ [oW 4 (.move (oI 0))]
 (.seq (oQ [oM 5 0,oW 6 (.len 1 (.t 5)),oW 7 (.arith .eql (.t 6) (oI 0))]
 (.cond (.t 7) (oQ [oW 4 (.move (oI 0))]
 .ret) .skip))
 (oQ [oM 8 0,oM 9 1,oM 10 0,oW 11 (.len 1 (.t 10)),oW 12 (.arith .rem (.t 9) (.t 11)),oW 13 (.indexAddr 1 (.t 8) (.t 12)),oD 14 13,oM 4 14]
 .ret)))}
theorem c41:aK Tryz.prog Tryz.f41 .pure=some t41:=by kernel_rfl
def t42:aV:={ntmps:=12,results:=[.t 4,.t 5],mode:=.pure,body :=
 (oQ [oW 2 (.box 31 6 (.t 0)),oW 3 (.box 24 2 (.t 1)),oW 4 (.move (oI 0)),oW 5 (.move (oB false))]
 (oQ [oA 6 5 2,oD 7 6,oL 8 2 3,oW 9 (.call (oF 86) [.t 7,.t 8,oF 87]),oX 10 9 0,oX 11 9 1,oM 4 10,oM 5 11]
 .ret))}
theorem c42:aK Tryz.prog Tryz.f42 .pure=some t42:=by kernel_rfl
def t43:aV:={ntmps:=95,results:=[.t 6],mode:=.split,body :=
 (oQ [oW 6 (.move (.c .nsl))]
 (oQ [oM 10 0,oM 11 1,oW 12 (.sliceSl 3 (.t 10) (some (.t 11)) none)]
 (oQ [oM 13 2,oW 14 (.len 1 (.t 13)),oM 7 14]
 (.seq (oQ [oM 15 7,oW 16 (.arith .eql (.t 15) (oI 0))]
 (.cond (.t 16) (oQ [oM 17 0,oM 6 17]
 .ret) .skip))
 (oQ [oM 18 0,oW 19 (.len 1 (.t 18)),oM 8 19]
 (.seq (oQ [oM 20 1,oM 21 8,oW 22 (.arith .eql (.t 20) (.t 21))]
 (.cond (.t 22) (oQ [oM 23 0,oM 24 2,oW 25 (.append 102 3 40 (.t 23) (.t 24)),oM 6 25]
 .ret) .skip))
 (.seq (oQ [oM 26 8,oM 27 7,oW 28 (.arith .add (.t 26) (.t 27)),oM 29 0,oW 30 (.cap (.t 29)),oW 31 (.arith .gtr (.t 28) (.t 30))]
 (.cond (.t 31) (oQ [oM 32 0,oM 33 1,oW 34 (.sliceSl 3 (.t 32) none (some (.t 33))),oM 35 8,oM 36 7,oW 37 (.arith .add (.t 35) (.t 36)),oM 38 1,oW 39 (.arith .sub (.t 37) (.t 38)),oW 40 (.appendZ 102 3 40 (.agg [.int .i64 0,.int .i64 0,.nsl]) (.t 34) (.t 39)),oM 9 40]
 (oQ [oM 41 9,oM 42 1,oW 43 (.sliceSl 3 (.t 41) (some (.t 42)) none),oM 44 2,oW 45 (.copy 3 (.t 43) (.t 44))]
 (.seq (.draw [oRM 46 9,oRM 47 1,oRM 48 7,oR 49 (.arith .add (.t 47) (.t 48)),oR 50 (.sliceSl 3 (.t 46) (some (.t 49)) none),oRM 51 0,oRM 52 1,oR 53 (.sliceSl 3 (.t 51) (some (.t 52)) none),oW 54 (.copy 3 (.t 50) (.t 53))])
 (oQ [oM 55 9,oM 6 55]
 .ret)))) .skip))
 (oQ [oM 56 0,oM 57 8,oM 58 7,oW 59 (.arith .add (.t 57) (.t 58)),oW 60 (.sliceSl 3 (.t 56) none (some (.t 59))),oM 0 60]
 (.seq (oQ [oM 61 2,oM 62 0,oM 63 1,oM 64 7,oW 65 (.arith .add (.t 63) (.t 64)),oW 66 (.sliceSl 3 (.t 62) (some (.t 65)) none),oW 67 (.call (oF 89) [.t 61,.t 66]),oW 68 (.un .not (.t 67))]
 (.cond (.t 68) (.seq (.draw [oRM 69 0,oRM 70 1,oRM 71 7,oR 72 (.arith .add (.t 70) (.t 71)),oR 73 (.sliceSl 3 (.t 69) (some (.t 72)) none),oRM 74 0,oRM 75 1,oR 76 (.sliceSl 3 (.t 74) (some (.t 75)) none),oW 77 (.copy 3 (.t 73) (.t 76))])
 (oQ [oM 78 0,oM 79 1,oW 80 (.sliceSl 3 (.t 78) (some (.t 79)) none),oM 81 2,oW 82 (.copy 3 (.t 80) (.t 81))]
 (oQ [oM 83 0,oM 6 83]
 .ret))) .skip))
 (oQ [oM 84 0,oM 85 8,oW 86 (.sliceSl 3 (.t 84) (some (.t 85)) none),oM 87 2,oW 88 (.copy 3 (.t 86) (.t 87))]
 (oQ [oM 89 0,oM 90 1,oW 91 (.sliceSl 3 (.t 89) (some (.t 90)) none),oM 92 7,oW 93 (.call (oF 90) [.t 91,.t 92])]
 (oQ [oM 94 0,oM 6 94]
 .ret))))))))))))}
theorem c43:aK Tryz.prog Tryz.f43 .split=some t43:=by kernel_rfl
def t45:aV:={ntmps:=14,results:=[.t 4],mode:=.pure,body :=
 (oQ [oW 4 (.move (oB false))]
 (oQ [oM 8 0,oM 9 1,oW 10 (.call (oF 91) [.t 8,.t 9]),oM 7 10,oX 11 7 0,oX 12 7 1,oM 5 11,oM 6 12]
 (oQ [oM 13 6,oM 4 13]
 .ret)))}
theorem c45:aK Tryz.prog Tryz.f45 .pure=some t45:=by kernel_rfl
def t46:aV:={ntmps:=32,results:=[(.cell 4 (some 6)),.t 5],mode:=.frz,body :=
 (oQ [oW 2 (.box 31 6 (.t 0)),oW 3 (.box 58 7 (.t 1)),oW 4 (.alloc 31 6 (.agg [.int .i64 0,.nsl,.nsl,.nsl,.nsl,.nsl])),oW 5 (.move (.c .nsl))]
 (oQ [oL 10 6 2,oA 11 0 3,oL 12 2 11,oW 13 (.call (oF 66) [.t 10,.t 12]),oM 9 13,oX 14 9 0,oX 15 9 1,oW 6 (.alloc 37 4 (.agg [.int .i64 0,.int .i64 0,.nsl,.int .i64 0])),oS 4 6 14,oM 7 15]
 (oQ [oL 17 6 2,oL 18 7 3,oW 19 (.call (oF 92) [.t 17,.t 18]),oM 16 19,oX 20 16 0,oX 21 16 1,oS 6 2 20,oM 8 21]
 (.seq (oQ [oM 22 8,oW 23 (.un .not (.t 22))]
 (.cond (.t 23) (oQ [oL 24 6 2,oS 6 4 24,oW 5 (.move (.c .nsl))]
 .ret) .skip))
 (.seq (.draw [oRL 25 6 2,oRA 26 3 6,oRD 27 26,⟨(some 28),.load (some 7) (.t 3),none,.read,0,true⟩,nK 29 (.call (oF 93) [.t 28]) .create 0,⟨none,.store 6 (.t 4) (.t 25),none,.create,0,false⟩,nK 30 (.build [.int .i64 0,.int .i64 0,.int .i64 0,.int .i64 0,.int .i64 0,.int .i64 0,.nsl,.nsl] [(0,1,.t 27),(1,7,.t 29)]) .read 1,nK 31 (.buildSlice 54 8 (.agg [.int .i64 0,.int .i64 0,.int .i64 0,.int .i64 0,.int .i64 0,.int .i64 0,.nsl,.nsl]) 1 [(0,.t 30)]) .create 0,nK 5 (.move (.t 31)) .read 3])
 .ret)))))}
theorem c46:aK Tryz.prog Tryz.f46 .frz=some t46:=by kernel_rfl
def t47:aV:={ntmps:=33,results:=[.t 6],mode:=.full,body :=
 (oQ [oW 6 (.move (.c .nsl))]
 (oQ [oM 8 0,oM 9 1,oM 10 2,oM 11 0,oW 12 (.len 1 (.t 11)),oW 13 (.slice3 (.t 8) (.t 9) (.t 10) (.t 12))]
 (.seq (oQ [oM 14 1,oM 15 2,oW 16 (.arith .eql (.t 14) (.t 15))]
 (.cond (.t 16) (oQ [oM 17 0,oM 6 17]
 .ret) .skip))
 (oQ [oM 18 0,oW 19 (.len 1 (.t 18)),oM 7 19]
 (.seq (.draw [oRM 20 0,oRM 21 1,oR 22 (.sliceSl 3 (.t 20) none (some (.t 21))),oRM 23 0,oRM 24 2,oR 25 (.sliceSl 3 (.t 23) (some (.t 24)) none),oW 26 (.append 102 3 40 (.t 22) (.t 25)),nK 0 (.move (.t 26)) .read 1])
 (oQ [oM 27 0,oM 28 0,oW 29 (.len 1 (.t 28)),oM 30 7,oW 31 (.sliceSl 3 (.t 27) (some (.t 29)) (some (.t 30))),oZ (.clear 3 (.agg [.int .i64 0,.int .i64 0,.nsl]) (.t 31))]
 (oQ [oM 32 0,oM 6 32]
 .ret)))))))}
theorem c47:aK Tryz.prog Tryz.f47 .full=some t47:=by kernel_rfl
def C7:aN :=
 (oQ [oW 38 (.arith .lss (.t 37) (.t 36))]
 (.seq (.cond (.t 38) .skip (.exit 0))
 (.seq (.block 1 (oQ [oW 39 (.indexAddr 7 (.t 35) (.t 37)),oL 40 7 39,oW 16 (.alloc 58 7 (.agg [.int .i64 0,.int .i64 0,.int .i64 0,.int .i64 0,.nsl,.int .i64 0,.bool false])),oS 7 16 40]
 (.draw [oRA 42 3 10,oRD 43 42,oRL 44 7 16,nK 45 (.call (oF 93) [.t 44]) .create 0,oRM 41 14,nK 46 (.build [.int .i64 0,.int .i64 0,.int .i64 0,.int .i64 0,.int .i64 0,.int .i64 0,.nsl,.nsl] [(0,1,.t 43),(1,7,.t 45)]) .read 1,nK 47 (.buildSlice 54 8 (.agg [.int .i64 0,.int .i64 0,.int .i64 0,.int .i64 0,.int .i64 0,.int .i64 0,.nsl,.nsl]) 1 [(0,.t 46)]) .create 0,nK 48 (.append 54 8 96 (.t 41) (.t 47)) .write 2,nK 14 (.move (.t 48)) .read 3])))
 (.region [oW 49 (.arith .add (.t 37) (oI 1)),oM 37 49]))))
def Qf:aN :=
 (.seq (.draw [oRL 50 6 4,oRA 52 3 10,oRD 53 52,oRL 54 2 5,oRL 55 2 6,oRM 51 14,oR 56 (.build [.int .i64 0,.int .i64 0,.int .i64 0,.int .i64 0,.int .i64 0,.nsl,.nsl] [(0,1,oI 4),(1,2,.t 54),(3,2,.t 55)]),oR 57 (.build [.int .i64 0,.int .i64 0,.int .i64 0,.int .i64 0,.int .i64 0,.int .i64 0,.nsl,.nsl] [(0,1,.t 53),(1,7,.t 56)]),nK 58 (.buildSlice 54 8 (.agg [.int .i64 0,.int .i64 0,.int .i64 0,.int .i64 0,.int .i64 0,.int .i64 0,.nsl,.nsl]) 1 [(0,.t 57)]) .create 0,nK 59 (.append 54 8 96 (.t 51) (.t 58)) .create 0,⟨none,.store 6 (.t 8) (.t 50),none,.write,2,false⟩,nK 9 (.move (.t 59)) .read 3])
 .ret)
def t48:aV:={ntmps:=60,results:=[(.cell 8 (some 6)),.t 9],mode:=.frz,body :=
 (oQ [oW 4 (.box 31 6 (.t 0)),oW 5 (.box 24 2 (.t 1)),oW 6 (.box 24 2 (.t 2)),oW 8 (.alloc 31 6 (.agg [.int .i64 0,.nsl,.nsl,.nsl,.nsl,.nsl])),oW 9 (.move (.c .nsl))]
 (oQ [oL 18 6 4,oL 19 2 5,oW 20 (.call (oF 66) [.t 18,.t 19]),oM 17 20,oX 21 17 0,oX 22 17 1,oW 10 (.alloc 37 4 (.agg [.int .i64 0,.int .i64 0,.nsl,.int .i64 0])),oS 4 10 21,oM 11 22]
 (oQ [oL 24 6 4,oL 25 2 5,oL 26 2 6,oM 27 3,oW 28 (.call (oF 94) [.t 24,.t 25,.t 26,.t 27]),oM 23 28,oX 29 23 0,oX 30 23 1,oX 31 23 2,oS 6 4 29,oM 12 30,oM 13 31]
 (.seq (oQ [oM 32 13,oW 33 (.un .not (.t 32))]
 (.cond (.t 33) (oQ [oL 34 6 4,oS 6 8 34,oW 9 (.move (.c .nsl))]
 .ret) .skip))
 (oQ [oW 14 (.move (.c .nsl))]
 (.seq (oQ [oM 35 12,oW 36 (.len 1 (.t 35)),oW 37 (.move (oI 0))]
 (.block 0 (.loop C7)))
 Qf))))))}
theorem c48:aK Tryz.prog Tryz.f48 .frz=some t48:=by kernel_rfl
def t49:aV:={ntmps:=45,results:=[.t 4],mode:=.pure,body :=
 (oQ [oW 2 (.box 98 5 (.t 0)),oW 3 (.box 98 5 (.t 1)),oW 4 (.move (oB false))]
 (.seq (oQ [oA 5 1 3,oD 6 5]
 (.block 0 (oQ [oW 8 (.arith .eql (.t 6) (oI 1)),oM 7 8]
 (.cond (.t 7) (oQ [oA 9 1 2,oD 10 9,oW 11 (.arith .eql (.t 10) (oI 1)),oM 12 11,gA 13 2 2 12 true,gD 14 13 12 true,gA 15 2 3 12 true,gD 16 15 12 true,gW 17 (.arith .leq (.t 14) (.t 16)) 12 true,oW 18 (.pick (.t 12) (.t 17) (oB false)),oM 19 18,gA 20 3 3 19 true,gD 21 20 19 true,gA 22 3 2 19 true,gD 23 22 19 true,gW 24 (.arith .leq (.t 21) (.t 23)) 19 true,oW 25 (.pick (.t 19) (.t 24) (oB false)),oM 4 25]
 .ret) (oQ [oW 27 (.arith .eql (.t 6) (oI 3)),oM 26 27]
 (.cond (.t 26) (oQ [oA 28 1 2,oD 29 28,oW 30 (.arith .eql (.t 29) (oI 3)),oM 31 30,gA 32 4 3 31 true,gD 33 32 31 true,gA 34 4 2 31 true,gD 35 34 31 true,gW 36 (.call (oF 95) [.t 33,.t 35]) 31 true,oW 37 (.pick (.t 31) (.t 36) (oB false)),oM 4 37]
 .ret) (oQ [oW 39 (.arith .eql (.t 6) (oI 2)),oM 38 39]
 (.cond (.t 38) (.seq (.draw [oRL 40 5 2,oRA 41 4 3,oRD 42 41,nK 43 (.call (oF 97) [.t 42]) .create 0,nK 44 (.call (oF 96) [.t 40,.t 43]) .write 1,nK 4 (.move (.t 44)) .read 2])
 .ret) .skip))))))))
 (oQ [oW 4 (.move (oB false))]
 .ret)))}
theorem c49:aK Tryz.prog Tryz.f49 .pure=some t49:=by kernel_rfl
def t52:aV:={ntmps:=15,results:=[.t 6],mode:=.pure,body :=
 (oQ [oW 6 (.move (.c .nili))]
 (.seq (oQ [oM 7 2,oW 8 (.eqn 4 false (.t 7) (.c .nili))]
 (.cond (.t 8) (oQ [oW 6 (.move (.c .nili))]
 .ret) .skip))
 (oQ [oM 9 0,oM 10 1,oM 11 2,oW 12 (.build [.str [],.int .i64 0,.nili] [(0,1,.t 9),(1,1,.t 10),(2,1,.t 11)]),oW 13 (.box 174 3 (.t 12)),oW 14 (.makeIface 172 (.t 13)),oM 6 14]
 .ret)))}
theorem c52:aK Tryz.prog Tryz.f52 .pure=some t52:=by kernel_rfl
def t66:aV:={ntmps:=22,results:=[(.cell 4 (some 4)),.t 5],mode:=.pure,body :=
 (oQ [oW 2 (.box 31 6 (.t 0)),oW 3 (.box 24 2 (.t 1)),oW 4 (.alloc 37 4 (.agg [.int .i64 0,.int .i64 0,.nsl,.int .i64 0])),oW 5 (.move (oB false))]
 (oQ [oL 9 6 2,oL 10 2 3,oW 11 (.call (oF 33) [.t 9,.t 10]),oM 8 11,oX 12 8 0,oX 13 8 1,oM 6 12,oM 7 13]
 (.seq (oQ [oM 14 7,oW 15 (.un .not (.t 14))]
 (.cond (.t 15) (oQ [oW 16 (.build [.int .i64 0,.int .i64 0,.nsl,.int .i64 0] []),oS 4 4 16,oW 5 (.move (oB false))]
 .ret) .skip))
 (oQ [oA 17 2 2,oD 18 17,oM 19 6,oW 20 (.indexAddr 4 (.t 18) (.t 19)),oL 21 4 20,oS 4 4 21,oW 5 (.move (oB true))]
 .ret))))}
theorem c66:aK Tryz.prog Tryz.f66 .pure=some t66:=by kernel_rfl
def AW:aN :=
 (.seq (oQ [oM 15 9,oM 16 10,oW 17 (.arith .lss (.t 15) (.t 16))]
 (.cond (.t 17) .skip (.exit 0)))
 (.block 1 (oQ [oM 18 9,oM 19 10,oW 20 (.arith .add (.t 18) (.t 19)),oW 21 (.conv .u64 (.t 20)),oW 22 (.arith .shr (.t 21) (.c (.int .u64 1))),oW 23 (.conv .i64 (.t 22)),oM 11 23]
 (.seq (.draw [oRM 25 0,oRM 26 11,oR 27 (.indexAddr 2 (.t 25) (.t 26)),oRL 28 2 27,oRL 29 2 4,oRM 24 2,oW 30 (.call (.t 24) [.t 28,.t 29]),nK 31 (.arith .lss (.t 30) (oI 0)) .read 1])
 (.cond (.t 31) (.region [oM 32 11,oW 33 (.arith .add (.t 32) (oI 1)),oM 9 33]) (.region [oM 34 11,oM 10 34]))))))
def C6:aN :=
 (.seq (.draw [oRM 36 9,oRM 37 8,oR 38 (.arith .lss (.t 36) (.t 37)),oRM 39 38,rM 41 0 39 true,rM 42 9 39 true,rW 43 (.indexAddr 2 (.t 41) (.t 42)) 39 true,rL 44 2 43 39 true,rL 45 2 4 39 true,rM 40 2 39 true,gW 46 (.call (.t 40) [.t 44,.t 45]) 39 true,oRM 35 9,⟨(some 47),.arith .eql (.t 46) (oI 0),(some (39,true)),.read,1,false⟩,nK 48 (.pick (.t 39) (.t 47) (oB false)) .read 1,nK 6 (.move (.t 35)) .read 1,nK 7 (.move (.t 48)) .read 1])
 .ret)
def t75:aV:={ntmps:=49,results:=[.t 6,.t 7],mode:=.pure,body :=
 (oQ [oW 4 (.box 24 2 (.t 1)),oW 6 (.move (oI 0)),oW 7 (.move (oB false))]
 (oQ [oM 12 0,oW 13 (.len 1 (.t 12)),oM 8 13]
 (oQ [oM 14 8,oW 9 (.move (oI 0)),oM 10 14]
 (.seq (.block 0 (.loop AW))
 C6))))}
theorem c75:aK Tryz.prog Tryz.f75 .pure=some t75:=by kernel_rfl
def t76:aV:={ntmps:=17,results:=[.t 4],mode:=.pure,body :=
 (oQ [oW 2 (.box 24 2 (.t 0)),oW 3 (.box 24 2 (.t 1)),oW 4 (.move (oI 0))]
 (.seq (.draw [oRA 5 0 2,oRD 6 5,oRA 7 0 3,oRD 8 7,nK 9 (.call (oF 110) [.t 6,.t 8]) .create 0,oRA 10 1 2,oRD 11 10,oRA 12 1 3,oRD 13 12,nK 14 (.call (oF 110) [.t 11,.t 13]) .write 1,nK 15 (.buildSlice 3 1 (.int .i64 0) 2 [(0,.t 9),(1,.t 14)]) .create 0,nK 16 (.call (oF 109) [.t 15]) .write 3,nK 4 (.move (.t 16)) .read 4])
 .ret))}
theorem c76:aK Tryz.prog Tryz.f76 .pure=some t76:=by kernel_rfl
def AV:aN :=
 (.seq (oQ [oM 15 9,oM 16 10,oW 17 (.arith .lss (.t 15) (.t 16))]
 (.cond (.t 17) .skip (.exit 0)))
 (.block 1 (oQ [oM 18 9,oM 19 10,oW 20 (.arith .add (.t 18) (.t 19)),oW 21 (.conv .u64 (.t 20)),oW 22 (.arith .shr (.t 21) (.c (.int .u64 1))),oW 23 (.conv .i64 (.t 22)),oM 11 23]
 (.seq (.draw [oRM 25 0,oRM 26 11,oR 27 (.indexAddr 4 (.t 25) (.t 26)),oRL 28 4 27,oRL 29 2 4,oRM 24 2,oW 30 (.call (.t 24) [.t 28,.t 29]),nK 31 (.arith .lss (.t 30) (oI 0)) .read 1])
 (.cond (.t 31) (.region [oM 32 11,oW 33 (.arith .add (.t 32) (oI 1)),oM 9 33]) (.region [oM 34 11,oM 10 34]))))))
def C1:aN :=
 (.seq (.draw [oRM 36 9,oRM 37 8,oR 38 (.arith .lss (.t 36) (.t 37)),oRM 39 38,rM 41 0 39 true,rM 42 9 39 true,rW 43 (.indexAddr 4 (.t 41) (.t 42)) 39 true,rL 44 4 43 39 true,rL 45 2 4 39 true,rM 40 2 39 true,gW 46 (.call (.t 40) [.t 44,.t 45]) 39 true,oRM 35 9,⟨(some 47),.arith .eql (.t 46) (oI 0),(some (39,true)),.read,1,false⟩,nK 48 (.pick (.t 39) (.t 47) (oB false)) .read 1,nK 6 (.move (.t 35)) .read 1,nK 7 (.move (.t 48)) .read 1])
 .ret)
def t77:aV:={ntmps:=49,results:=[.t 6,.t 7],mode:=.pure,body :=
 (oQ [oW 4 (.box 24 2 (.t 1)),oW 6 (.move (oI 0)),oW 7 (.move (oB false))]
 (oQ [oM 12 0,oW 13 (.len 1 (.t 12)),oM 8 13]
 (oQ [oM 14 8,oW 9 (.move (oI 0)),oM 10 14]
 (.seq (.block 0 (.loop AV))
 C1))))}
theorem c77:aK Tryz.prog Tryz.f77 .pure=some t77:=by kernel_rfl
def t78:aV:={ntmps:=9,results:=[.t 4],mode:=.pure,body :=
 (oQ [oW 2 (.box 37 4 (.t 0)),oW 3 (.box 24 2 (.t 1)),oW 4 (.move (oI 0))]
 (oQ [oA 5 0 2,oL 6 2 5,oL 7 2 3,oW 8 (.call (oF 76) [.t 6,.t 7]),oM 4 8]
 .ret))}
theorem c78:aK Tryz.prog Tryz.f78 .pure=some t78:=by kernel_rfl
def t80:aV:={ntmps:=10,results:=[],mode:=.full,body :=
 (.region [oM 4 0,oM 5 0,oW 6 (.len 1 (.t 5)),oM 7 1,oW 8 (.arith .sub (.t 6) (.t 7)),oW 9 (.call (oF 111) [.t 4,.t 8])])}
theorem c80:aK Tryz.prog Tryz.f80 .full=some t80:=by kernel_rfl
def t82:aV:={ntmps:=10,results:=[],mode:=.full,body :=
 (.region [oM 4 0,oM 5 0,oW 6 (.len 1 (.t 5)),oM 7 1,oW 8 (.arith .sub (.t 6) (.t 7)),oW 9 (.call (oF 112) [.t 4,.t 8])])}
theorem c82:aK Tryz.prog Tryz.f82 .full=some t82:=by kernel_rfl
end Go.Dm.Tc
