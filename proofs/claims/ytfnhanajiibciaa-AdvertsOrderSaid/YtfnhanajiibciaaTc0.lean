/-
The table of functions, brought into the machine's form (Tc, part 0). Written by program (wip/tools/table.lean.txt).
-/
import Derived.Test.YtfnhanajiibciaaMm3
import Derived.Test.YtfnhanajiibciaaRows
import Derived.KernelRfl
namespace Go.Dm.Tc
open Go.Proofs
abbrev oQ (l:List DOper) (c:DCode):DCode:=.seq (.region l) c
abbrev gW (d:Nat) (op:DOp) (g:Nat) (b:Bool):DOper:=⟨some d,op,some (g,b),.write,0,false⟩
abbrev gM (d x g:Nat) (b:Bool):DOper:=⟨some d,.move (.t x),some (g,b),.write,0,false⟩
abbrev gA (d o x g:Nat) (b:Bool):DOper:=⟨some d,.fieldAddr o (.t x),some (g,b),.write,0,false⟩
abbrev gD (d x g:Nat) (b:Bool):DOper:=⟨some d,.load none (.t x),some (g,b),.write,0,false⟩
abbrev gL (d n x g:Nat) (b:Bool):DOper:=⟨some d,.load (some n) (.t x),some (g,b),.write,0,false⟩
abbrev rW (d:Nat) (op:DOp) (g:Nat) (b:Bool):DOper:=⟨some d,op,some (g,b),.read,0,false⟩
abbrev rM (d x g:Nat) (b:Bool):DOper:=⟨some d,.move (.t x),some (g,b),.read,0,false⟩
abbrev rA (d o x g:Nat) (b:Bool):DOper:=⟨some d,.fieldAddr o (.t x),some (g,b),.read,0,false⟩
abbrev rD (d x g:Nat) (b:Bool):DOper:=⟨some d,.load none (.t x),some (g,b),.read,0,false⟩
abbrev rL (d n x g:Nat) (b:Bool):DOper:=⟨some d,.load (some n) (.t x),some (g,b),.read,0,false⟩
abbrev nK (d:Nat) (op:DOp) (k:OKind) (s:Nat):DOper:=⟨some d,op,none,k,s,false⟩
def t6s0:DCode :=
 (.region [oM 32 11,oW 33 (.arith .add (.t 32) (oI 1)),oM 11 33])
def t6l0:DCode :=
 (.seq (oQ [oM 24 11,oM 25 0,oW 26 (.len 1 (.t 25)),oW 27 (.arith .lss (.t 24) (.t 26)),oM 28 27,gM 29 11 28 true,gW 30 (.arith .lss (.t 29) (oI 8)) 28 true,oW 31 (.pick (.t 28) (.t 30) (oB false))]
 (.cond (.t 31) .skip (.exit 0)))
 (.seq (.block 1 (.seq (.draw [oRM 34 0,oRM 35 11,oR 36 (.indexAddr 1 (.t 34) (.t 35)),oRD 37 36,nK 38 (.call (oF 8) [.t 37,oI 0,oI 3]) .create 0,oRM 39 0,oRM 40 11,oR 41 (.indexAddr 1 (.t 39) (.t 40)),oRD 42 41,oR 43 (.arith .quo (.t 42) (oI 4)),nK 44 (.call (oF 8) [.t 43,oI 0,oI 3]) .write 1,nK 45 (.build [.int .i64 0,.int .i64 0] [(0,1,.t 38),(1,1,.t 44)]) .read 2,nK 12 (.alloc 35 2 (.agg [.int .i64 0,.int .i64 0])) .create 0,⟨none,.store 2 (.t 12) (.t 45),none,.write,3,false⟩])
 (.seq (oQ [oM 46 10,oL 47 2 12,oW 48 (.lookup (.agg [1,1]) (.bool false) false (.t 46) (.t 47)),oW 49 (.un .not (.t 48))]
 (.cond (.t 49) (.draw [oRL 51 2 12,oRL 52 2 7,nK 53 (.call (oF 10) [.t 52]) .create 0,oRM 50 9,nK 54 (.build [.int .i64 0,.int .i64 0,.nsl,.int .i64 0] [(0,2,.t 51),(2,1,.t 53),(3,1,(oI (-1)))]) .read 1,nK 55 (.buildSlice 41 4 (.agg [.int .i64 0,.int .i64 0,.nsl,.int .i64 0]) 1 [(0,.t 54)]) .create 0,nK 56 (.append 41 4 48 (.t 50) (.t 55)) .write 2,nK 9 (.move (.t 56)) .read 3]) .skip))
 (.region [oM 57 10,oL 58 2 12,oZ (.mapUpdate (.agg [1,1]) (.t 57) (.t 58) (oB true))]))))
 t6s0))
def t6s1:DCode :=
 (.region [oM 71 14,oW 72 (.arith .add (.t 71) (oI 1)),oM 14 72])
def t6l1:DCode :=
 (.seq (oQ [oM 62 14,oM 63 1,oW 64 (.len 1 (.t 63)),oW 65 (.arith .lss (.t 62) (.t 64)),oM 66 65,gM 67 13 66 true,gW 68 (.len 1 (.t 67)) 66 true,gW 69 (.arith .gtr (.t 68) (oI 1)) 66 true,oW 70 (.pick (.t 66) (.t 69) (oB false))]
 (.cond (.t 70) .skip (.exit 2)))
 (.seq (.block 3 (oQ [oM 73 1,oM 74 14,oW 75 (.indexAddr 1 (.t 73) (.t 74)),oD 76 75,oM 77 13,oW 78 (.len 1 (.t 77)),oW 79 (.arith .sub (.t 78) (oI 1)),oW 80 (.call (oF 8) [.t 76,oI 0,.t 79]),oM 15 80]
 (.draw [oRM 82 13,oRM 83 15,oR 84 (.indexAddr 4 (.t 82) (.t 83)),oRL 85 4 84,nK 81 (.buildSlice 41 4 (.agg [.int .i64 0,.int .i64 0,.nsl,.int .i64 0]) 0 []) .create 0,nK 86 (.buildSlice 41 4 (.agg [.int .i64 0,.int .i64 0,.nsl,.int .i64 0]) 1 [(0,.t 85)]) .create 0,nK 87 (.append 41 4 48 (.t 81) (.t 86)) .create 0,oRM 88 13,oRM 89 15,oR 90 (.sliceSl 4 (.t 88) none (some (.t 89))),nK 91 (.append 41 4 48 (.t 87) (.t 90)) .create 0,oRM 92 13,oRM 93 15,oR 94 (.arith .add (.t 93) (oI 1)),oR 95 (.sliceSl 4 (.t 92) (some (.t 94)) none),nK 96 (.append 41 4 48 (.t 91) (.t 95)) .write 4,nK 13 (.move (.t 96)) .read 5])))
 t6s1))
def t6s2:DCode :=
 (.region [oM 105 17,oW 106 (.arith .add (.t 105) (oI 1)),oM 17 106])
def t6l2:DCode :=
 (.seq (oQ [oM 97 17,oM 98 2,oW 99 (.len 1 (.t 98)),oW 100 (.arith .lss (.t 97) (.t 99)),oM 101 100,gM 102 17 101 true,gW 103 (.arith .lss (.t 102) (oI 6)) 101 true,oW 104 (.pick (.t 101) (.t 103) (oB false))]
 (.cond (.t 104) .skip (.exit 4)))
 (.seq (.block 5 (.region [oM 107 16,oM 108 2,oM 109 17,oW 110 (.indexAddr 1 (.t 108) (.t 109)),oD 111 110,oW 112 (.call (oF 8) [.t 111,oI 0,oI 9]),oW 113 (.buildSlice 3 1 (.int .i64 0) 1 [(0,.t 112)]),oW 114 (.append 3 1 8 (.t 107) (.t 113)),oM 16 114]))
 t6s2))
def t6s3:DCode :=
 (.region [oW 146 (.arith .add (.t 125) (oI 1)),oM 125 146])
def t6l3:DCode :=
 (oQ [oW 126 (.arith .lss (.t 125) (.t 124))]
 (.seq (.cond (.t 126) .skip (.exit 6))
 (.seq (.block 7 (oQ [oM 127 125,oM 20 127]
 (.seq (.draw [oRL 129 6 18,oRM 130 9,oRM 131 20,oR 132 (.indexAddr 4 (.t 130) (.t 131)),oRL 133 4 132,oW 134 (.call (oF 9) [.t 129,.t 133]),nK 128 (.move (.t 134)) .read 1,nK 135 (.extract (.t 128) 0) .read 1,⟨none,.store 6 (.t 18) (.t 135),none,.write,1,false⟩,nK 136 (.extract (.t 128) 1) .read 1])
 (.draw [oRL 138 6 19,oRM 139 13,oRM 140 20,oR 141 (.indexAddr 4 (.t 139) (.t 140)),oRL 142 4 141,oW 143 (.call (oF 9) [.t 138,.t 142]),nK 137 (.move (.t 143)) .read 1,nK 144 (.extract (.t 137) 0) .read 1,⟨none,.store 6 (.t 19) (.t 144),none,.write,1,false⟩,nK 145 (.extract (.t 137) 1) .read 1]))))
 t6s3)))
def t6s4:DCode :=
 (.region [oW 170 (.arith .add (.t 150) (oI 1)),oM 150 170])
def t6l4:DCode :=
 (oQ [oW 151 (.arith .lss (.t 150) (.t 149))]
 (.seq (.cond (.t 151) .skip (.exit 8))
 (.seq (.block 9 (oQ [oM 152 150,oW 153 (.indexAddr 4 (.t 148) (.t 150)),oL 154 4 153,oW 22 (.alloc 41 4 (.agg [.int .i64 0,.int .i64 0,.nsl,.int .i64 0])),oM 21 152,oS 4 22 154]
 (.seq (.draw [oRM 155 21,oR 156 (.arith .gtr (.t 155) (oI 0)),oRM 157 156,rA 158 2 18 157 true,rD 159 158 157 true,rM 160 21 157 true,rW 161 (.arith .sub (.t 160) (oI 1)) 157 true,rW 162 (.indexAddr 4 (.t 159) (.t 161)) 157 true,rA 163 0 162 157 true,rL 164 2 163 157 true,rA 165 0 22 157 true,rL 166 2 165 157 true,gW 167 (.call (oF 14) [.t 164,.t 166]) 157 true,⟨(some 168),.un .not (.t 167),(some (157,true)),.read,1,false⟩,nK 169 (.pick (.t 157) (.t 168) (oB false)) .read 1])
 (.cond (.t 169) (oQ [oW 8 (.move (oB false))]
 .ret) .skip))))
 t6s4)))
def t6k0:DCode :=
 (oQ [oL 171 6 18,oL 172 6 19,oW 173 (.call (oF 26) [.t 171,.t 172]),oM 174 173,gA 175 2 18 174 true,gD 176 175 174 true,gW 177 (.len 1 (.t 176)) 174 true,gM 178 9 174 true,gW 179 (.len 1 (.t 178)) 174 true,gW 180 (.arith .eql (.t 177) (.t 179)) 174 true,oW 181 (.pick (.t 174) (.t 180) (oB false)),oM 182 181,gL 183 6 18 182 true,gW 184 (.call (oF 15) [.t 183]) 182 true,oW 185 (.pick (.t 182) (.t 184) (oB false)),oM 186 185,gA 187 0 18 186 true,gD 188 187 186 true,gW 189 (.arith .eql (.t 188) (oI 11)) 186 true,oW 190 (.pick (.t 186) (.t 189) (oB false)),oM 191 190,gW 192 (.call (oF 16) []) 191 true,oW 193 (.pick (.t 191) (.t 192) (oB false)),oM 8 193]
 .ret)
def t6k1:DCode :=
 (.seq (oQ [oA 147 2 18,oD 148 147,oW 149 (.len 1 (.t 148)),oW 150 (.move (oI 0))]
 (.block 8 (.loop t6l4)))
 t6k0)
def t6k2:DCode :=
 (oQ [oM 115 16,oW 116 (.call (oF 7) [oI 11,.t 115]),oW 117 (.buildSlice 3 1 (.int .i64 0) 0 []),oM 118 16,oW 119 (.append 3 1 8 (.t 117) (.t 118)),oM 120 16,oW 121 (.append 3 1 8 (.t 119) (.t 120)),oW 122 (.call (oF 7) [oI 11,.t 121]),oW 18 (.alloc 30 6 (.agg [.int .i64 0,.nsl,.nsl,.nsl,.nsl,.nsl])),oW 19 (.alloc 30 6 (.agg [.int .i64 0,.nsl,.nsl,.nsl,.nsl,.nsl])),oS 6 18 116,oS 6 19 122]
 (.seq (oQ [oM 123 9,oW 124 (.len 1 (.t 123)),oW 125 (.move (oI 0))]
 (.block 6 (.loop t6l3)))
 t6k1))
def t6k3:DCode :=
 (oQ [oW 16 (.move (.c .nsl))]
 (.seq (oQ [oW 17 (.move (oI 0))]
 (.block 4 (.loop t6l2)))
 t6k2))
def t6k4:DCode :=
 (oQ [oW 59 (.buildSlice 41 4 (.agg [.int .i64 0,.int .i64 0,.nsl,.int .i64 0]) 0 []),oM 60 9,oW 61 (.append 41 4 48 (.t 59) (.t 60)),oM 13 61]
 (.seq (oQ [oW 14 (.move (oI 0))]
 (.block 2 (.loop t6l1)))
 t6k3))
def t6:DFunc:={ntmps:=194,results:=[.t 8],mode:=.pure,body :=
 (oQ [oW 7 (.box 24 2 (.t 3)),oW 8 (.move (oB false))]
 (oQ [oW 9 (.move (.c .nsl))]
 (oQ [oW 23 (.makeMap),oM 10 23]
 (.seq (oQ [oW 11 (.move (oI 0))]
 (.block 0 (.loop t6l0)))
 t6k4))))}
theorem c6:compFunc Try.prog Try.f6 .pure=some t6:=by kernel_rfl
def t7:DFunc:={ntmps:=14,results:=[(.cell 4 (some 6))],mode:=.pure,body :=
 (oQ [oW 4 (.alloc 30 6 (.agg [.int .i64 0,.nsl,.nsl,.nsl,.nsl,.nsl]))]
 (oQ [oM 6 1,oW 7 (.call (oF 27) [.t 6]),oM 5 7]
 (oQ [oM 8 5,oW 9 (.call (oF 28) [.t 8])]
 (oQ [oM 10 0,oM 11 5,oW 12 (.call (oF 29) [.t 11]),oW 13 (.build [.int .i64 0,.nsl,.nsl,.nsl,.nsl,.nsl] [(0,1,.t 10),(1,1,.t 12)]),oS 6 4 13]
 .ret))))}
theorem c7:compFunc Try.prog Try.f7 .pure=some t7:=by kernel_rfl
def t8:DFunc:={ntmps:=24,results:=[.t 6],mode:=.pure,body :=
 (oQ [oW 6 (.move (oI 0))]
 (oQ [oM 7 0,oM 8 2,oM 9 1,oW 10 (.arith .sub (.t 8) (.t 9)),oW 11 (.arith .add (.t 10) (oI 1)),oW 12 (.arith .rem (.t 7) (.t 11)),oM 0 12]
 (.seq (oQ [oM 13 0,oW 14 (.arith .lss (.t 13) (oI 0))]
 (.cond (.t 14) (.region [oM 15 0,oM 16 2,oW 17 (.arith .add (.t 15) (.t 16)),oM 18 1,oW 19 (.arith .sub (.t 17) (.t 18)),oW 20 (.arith .add (.t 19) (oI 1)),oM 0 20]) .skip))
 (oQ [oM 21 1,oM 22 0,oW 23 (.arith .add (.t 21) (.t 22)),oM 6 23]
 .ret))))}
theorem c8:compFunc Try.prog Try.f8 .pure=some t8:=by kernel_rfl
def t9:DFunc:={ntmps:=44,results:=[(.cell 4 (some 6)),.t 5],mode:=.frz,body :=
 (oQ [oW 2 (.box 30 6 (.t 0)),oW 3 (.box 41 4 (.t 1)),oW 4 (.alloc 30 6 (.agg [.int .i64 0,.nsl,.nsl,.nsl,.nsl,.nsl])),oW 5 (.move (oB false))]
 (oQ [oL 10 6 2,oW 11 (.call (oF 30) [.t 10]),oS 6 2 11]
 (oQ [oL 13 6 2,oA 14 0 3,oL 15 2 14,oW 16 (.call (oF 31) [.t 13,.t 15]),oM 12 16,oX 17 12 0,oX 18 12 1,oM 6 17,oM 7 18]
 (.seq (oQ [oM 19 7]
 (.cond (.t 19) (oQ [oL 20 6 2,oS 6 4 20,oW 5 (.move (oB false))]
 .ret) .skip))
 (oQ [oL 22 6 2,oA 23 0 3,oL 24 2 23,oW 25 (.call (oF 32) [.t 22,.t 24]),oM 21 25,oX 26 21 0,oX 27 21 1,oM 8 26,oM 9 27]
 (oQ [oA 28 2 2,oD 29 28,oM 30 8,oL 31 4 3,oW 32 (.buildSlice 41 4 (.agg [.int .i64 0,.int .i64 0,.nsl,.int .i64 0]) 1 [(0,.t 31)]),oW 33 (.call (oF 33) [.t 29,.t 30,.t 32]),oA 34 2 2,oS 1 34 33]
 (oQ [oA 35 3 2,oD 36 35,oM 37 6,oA 38 0 3,oL 39 2 38,oW 40 (.buildSlice 35 2 (.agg [.int .i64 0,.int .i64 0]) 1 [(0,.t 39)]),oW 41 (.call (oF 34) [.t 36,.t 37,.t 40]),oA 42 3 2,oS 1 42 41]
 (oQ [oL 43 6 2,oS 6 4 43,oW 5 (.move (oB true))]
 .ret))))))))}
theorem c9:compFunc Try.prog Try.f9 .frz=some t9:=by kernel_rfl
def t10l0:DCode :=
 (oQ [oW 9 (.arith .lss (.t 8) (.t 7))]
 (.seq (.cond (.t 9) .skip (.exit 0))
 (.seq (.block 1 (oQ [oM 10 8,oW 11 (.indexAddr 1 (.t 6) (.t 8)),oD 12 11,oM 4 10,oM 5 12]
 (oQ [oM 13 4,oA 14 0 1,oD 15 14,oW 16 (.len 1 (.t 15)),oW 17 (.arith .lss (.t 13) (.t 16)),oM 18 17,gA 19 0 1 18 true,gD 20 19 18 true,gM 21 4 18 true,gW 22 (.indexAddr 1 (.t 20) (.t 21)) 18 true,gD 23 22 18 true,gW 24 (.arith .and (.t 23) (oI 1)) 18 true,gW 25 (.arith .eql (.t 24) (oI 1)) 18 true,oW 26 (.pick (.t 18) (.t 25) (oB false)),oM 27 26,gM 28 3 27 true,gW 29 (.len 1 (.t 28)) 27 true,gW 30 (.arith .lss (.t 29) (oI 5)) 27 true,oW 31 (.pick (.t 27) (.t 30) (oB false))]
 (.cond (.t 31) (.region [oM 32 3,oM 33 5,oA 34 1 1,oD 35 34,oM 36 4,oW 37 (.call (oF 37) [.t 35,.t 36]),oW 38 (.call (oF 36) [.t 33,.t 37]),oW 39 (.buildSlice 63 5 (.agg [.str [],.int .i64 0,.int .i64 0,.int .i64 0,.str []]) 1 [(0,.t 38)]),oW 40 (.append 63 5 56 (.t 32) (.t 39)),oM 3 40]) .skip))))
 (.region [oW 41 (.arith .add (.t 8) (oI 1)),oM 8 41]))))
def t10k0:DCode :=
 (oQ [oM 42 3,oM 2 42]
 .ret)
def t10:DFunc:={ntmps:=43,results:=[.t 2],mode:=.pure,body :=
 (oQ [oW 1 (.box 24 2 (.t 0)),oW 2 (.move (.c .nsl))]
 (oQ [oW 3 (.move (.c .nsl))]
 (.seq (oQ [oW 6 (.call (oF 35) []),oW 7 (.len 1 (.t 6)),oW 8 (.move (oI 0))]
 (.block 0 (.loop t10l0)))
 t10k0)))}
theorem c10:compFunc Try.prog Try.f10 .pure=some t10:=by kernel_rfl
def t11:DFunc:={ntmps:=14,results:=[.t 4],mode:=.pure,body :=
 (oQ [oW 2 (.box 30 6 (.t 0)),oW 3 (.box 35 2 (.t 1)),oW 4 (.move (oB false))]
 (oQ [oL 8 6 2,oL 9 2 3,oW 10 (.call (oF 31) [.t 8,.t 9]),oM 7 10,oX 11 7 0,oX 12 7 1,oM 5 11,oM 6 12]
 (oQ [oM 13 6,oM 4 13]
 .ret)))}
theorem c11:compFunc Try.prog Try.f11 .pure=some t11:=by kernel_rfl
def t12:DFunc:={ntmps:=22,results:=[(.cell 4 (some 4)),.t 5],mode:=.pure,body :=
 (oQ [oW 2 (.box 30 6 (.t 0)),oW 3 (.box 35 2 (.t 1)),oW 4 (.alloc 41 4 (.agg [.int .i64 0,.int .i64 0,.nsl,.int .i64 0])),oW 5 (.move (oB false))]
 (oQ [oL 9 6 2,oL 10 2 3,oW 11 (.call (oF 32) [.t 9,.t 10]),oM 8 11,oX 12 8 0,oX 13 8 1,oM 6 12,oM 7 13]
 (.seq (oQ [oM 14 7,oW 15 (.un .not (.t 14))]
 (.cond (.t 15) (oQ [oW 16 (.build [.int .i64 0,.int .i64 0,.nsl,.int .i64 0] []),oS 4 4 16,oW 5 (.move (oB false))]
 .ret) .skip))
 (oQ [oA 17 2 2,oD 18 17,oM 19 6,oW 20 (.indexAddr 4 (.t 18) (.t 19)),oL 21 4 20,oS 4 4 21,oW 5 (.move (oB true))]
 .ret))))}
theorem c12:compFunc Try.prog Try.f12 .pure=some t12:=by kernel_rfl
def t13:DFunc:={ntmps:=44,results:=[(.cell 6 (some 6)),.t 7],mode:=.frz,body :=
 (oQ [oW 3 (.box 30 6 (.t 0)),oW 4 (.box 35 2 (.t 1)),oW 6 (.alloc 30 6 (.agg [.int .i64 0,.nsl,.nsl,.nsl,.nsl,.nsl])),oW 7 (.move (oB false))]
 (oQ [oL 10 6 3,oW 11 (.call (oF 30) [.t 10]),oS 6 3 11]
 (oQ [oL 13 6 3,oL 14 2 4,oW 15 (.call (oF 32) [.t 13,.t 14]),oM 12 15,oX 16 12 0,oX 17 12 1,oM 8 16,oM 9 17]
 (.seq (oQ [oM 18 9,oW 19 (.un .not (.t 18)),oM 20 19,gA 21 2 3 20 false,gD 22 21 20 false,gM 23 8 20 false,gW 24 (.indexAddr 4 (.t 22) (.t 23)) 20 false,gA 25 3 24 20 false,gD 26 25 20 false,gM 27 2 20 false,gW 28 (.arith .neq (.t 26) (.t 27)) 20 false,oW 29 (.pick (.t 20) (oB true) (.t 28))]
 (.cond (.t 29) (oQ [oL 30 6 3,oS 6 6 30,oW 7 (.move (oB false))]
 .ret) .skip))
 (oQ [oA 31 2 3,oD 32 31,oM 33 8,oM 34 8,oW 35 (.arith .add (.t 34) (oI 1)),oW 36 (.call (oF 38) [.t 32,.t 33,.t 35]),oA 37 2 3,oS 1 37 36]
 (oQ [oA 38 4 3,oD 39 38,oW 40 (.makeFunc 40 [.t 4]),oW 41 (.call (oF 39) [.t 39,.t 40]),oA 42 4 3,oS 1 42 41]
 (oQ [oL 43 6 3,oS 6 6 43,oW 7 (.move (oB true))]
 .ret)))))))}
theorem c13:compFunc Try.prog Try.f13 .frz=some t13:=by kernel_rfl
def t14:DFunc:={ntmps:=9,results:=[.t 4],mode:=.pure,body :=
 (oQ [oW 2 (.box 35 2 (.t 0)),oW 3 (.box 35 2 (.t 1)),oW 4 (.move (oB false))]
 (oQ [oL 5 2 2,oL 6 2 3,oW 7 (.call (oF 41) [.t 5,.t 6]),oW 8 (.arith .lss (.t 7) (oI 0)),oM 4 8]
 .ret))}
theorem c14:compFunc Try.prog Try.f14 .pure=some t14:=by kernel_rfl
def t15:DFunc:={ntmps:=48,results:=[.t 2],mode:=.pure,body :=
 (oQ [oW 1 (.box 30 6 (.t 0)),oW 2 (.move (oB false))]
 (oQ [oA 4 1 1,oD 5 4,oW 6 (.call (oF 42) [.t 5,oF 43]),oM 7 6,gA 8 3 1 7 true,gD 9 8 7 true,gW 10 (.call (oF 44) [.t 9,oF 14]) 7 true,oW 11 (.pick (.t 7) (.t 10) (oB false)),oM 12 11,gA 13 2 1 12 true,gD 14 13 12 true,gW 15 (.call (oF 45) [.t 14,oF 46]) 12 true,oW 16 (.pick (.t 12) (.t 15) (oB false)),oM 17 16,gA 18 5 1 17 true,gD 19 18 17 true,gW 20 (.call (oF 47) [.t 19,oF 48]) 17 true,oW 21 (.pick (.t 17) (.t 20) (oB false)),oM 22 21,gA 23 4 1 22 true,gD 24 23 22 true,gW 25 (.call (oF 49) [.t 24,oF 50]) 22 true,oW 26 (.pick (.t 22) (.t 25) (oB false)),oM 3 26]
 (oQ [oM 27 3,oM 28 27,gA 29 2 1 28 true,gD 30 29 28 true,gW 31 (.makeFunc 53 [.t 1]) 28 true,gW 32 (.call (oF 52) [.t 30,.t 31]) 28 true,gW 33 (.un .not (.t 32)) 28 true,oW 34 (.pick (.t 28) (.t 33) (oB false)),oM 35 34,gA 36 4 1 35 true,gD 37 36 35 true,gW 38 (.makeFunc 57 [.t 1]) 35 true,gW 39 (.call (oF 56) [.t 37,.t 38]) 35 true,gW 40 (.un .not (.t 39)) 35 true,oW 41 (.pick (.t 35) (.t 40) (oB false)),oM 42 41,gA 43 5 1 42 true,gD 44 43 42 true,gW 45 (.call (oF 59) [.t 44,oF 60]) 42 true,gW 46 (.un .not (.t 45)) 42 true,oW 47 (.pick (.t 42) (.t 46) (oB false)),oM 2 47]
 .ret)))}
theorem c15:compFunc Try.prog Try.f15 .pure=some t15:=by kernel_rfl
def t16:DFunc:={ntmps:=55,results:=[.t 0],mode:=.pure,body :=
 (oQ [oW 0 (.move (oB false))]
 (oQ [oW 8 (.build [.int .i64 0,.int .i64 0] [(0,1,oI 1)]),oW 9 (.build [.int .i64 0,.int .i64 0,.nsl,.int .i64 0] [(0,2,.t 8),(3,1,oI 2)]),oW 1 (.alloc 41 4 (.agg [.int .i64 0,.int .i64 0,.nsl,.int .i64 0])),oS 4 1 9]
 (.seq (.draw [nK 11 (.buildSlice 3 1 (.int .i64 0) 3 [(0,oI 3),(1,oI 2),(2,oI 3)]) .create 0,nK 12 (.call (oF 7) [oI 0,.t 11]) .create 0,oRL 13 4 1,nK 14 (.call (oF 9) [.t 12,.t 13]) .write 2,nK 10 (.move (.t 14)) .read 3,nK 15 (.extract (.t 10) 0) .read 3,nK 2 (.alloc 30 6 (.agg [.int .i64 0,.nsl,.nsl,.nsl,.nsl,.nsl])) .create 0,⟨none,.store 6 (.t 2) (.t 15),none,.write,4,false⟩,nK 16 (.extract (.t 10) 1) .read 3,nK 3 (.move (.t 16)) .read 5])
 (oQ [oL 18 6 2,oL 19 4 1,oW 20 (.call (oF 9) [.t 18,.t 19]),oM 17 20,oX 21 17 0,oX 22 17 1,oW 4 (.alloc 30 6 (.agg [.int .i64 0,.nsl,.nsl,.nsl,.nsl,.nsl])),oS 6 4 21,oM 5 22]
 (oQ [oL 24 6 2,oA 25 0 1,oL 26 2 25,oW 27 (.call (oF 13) [.t 24,.t 26,oI 3]),oM 23 27,oX 28 23 0,oX 29 23 1,oW 6 (.alloc 30 6 (.agg [.int .i64 0,.nsl,.nsl,.nsl,.nsl,.nsl])),oS 6 6 28,oM 7 29]
 (oQ [oM 30 3,oM 31 30,gM 32 5 31 true,gW 33 (.un .not (.t 32)) 31 true,oW 34 (.pick (.t 31) (.t 33) (oB false)),oM 35 34,gM 36 7 35 true,gW 37 (.un .not (.t 36)) 35 true,oW 38 (.pick (.t 35) (.t 37) (oB false)),oM 39 38,gA 40 1 2 39 true,gD 41 40 39 true,gW 42 (.buildSlice 3 1 (.int .i64 0) 2 [(0,oI 2),(1,oI 3)]) 39 true,gW 43 (.call (oF 61) [.t 41,.t 42]) 39 true,oW 44 (.pick (.t 39) (.t 43) (oB false)),oM 45 44,gL 46 6 2 45 true,gA 47 0 1 45 true,gL 48 2 47 45 true,gW 49 (.call (oF 11) [.t 46,.t 48]) 45 true,oW 50 (.pick (.t 45) (.t 49) (oB false)),oM 51 50,gL 52 6 2 51 true,gW 53 (.call (oF 15) [.t 52]) 51 true,oW 54 (.pick (.t 51) (.t 53) (oB false)),oM 0 54]
 .ret))))))}
theorem c16:compFunc Try.prog Try.f16 .pure=some t16:=by kernel_rfl
def t26:DFunc:={ntmps:=45,results:=[.t 4],mode:=.pure,body :=
 (oQ [oW 2 (.box 30 6 (.t 0)),oW 3 (.box 30 6 (.t 1)),oW 4 (.move (oB false))]
 (oQ [oA 5 0 2,oD 6 5,oA 7 0 3,oD 8 7,oW 9 (.arith .eql (.t 6) (.t 8)),oM 10 9,gA 11 1 2 10 true,gD 12 11 10 true,gA 13 1 3 10 true,gD 14 13 10 true,gW 15 (.call (oF 69) [.t 12,.t 14]) 10 true,oW 16 (.pick (.t 10) (.t 15) (oB false)),oM 17 16,gA 18 3 2 17 true,gD 19 18 17 true,gA 20 3 3 17 true,gD 21 20 17 true,gW 22 (.call (oF 70) [.t 19,.t 21]) 17 true,oW 23 (.pick (.t 17) (.t 22) (oB false)),oM 24 23,gA 25 2 2 24 true,gD 26 25 24 true,gA 27 2 3 24 true,gD 28 27 24 true,gW 29 (.call (oF 71) [.t 26,.t 28,oF 72]) 24 true,oW 30 (.pick (.t 24) (.t 29) (oB false)),oM 31 30,gA 32 4 2 31 true,gD 33 32 31 true,gA 34 4 3 31 true,gD 35 34 31 true,gW 36 (.call (oF 74) [.t 33,.t 35,oF 75]) 31 true,oW 37 (.pick (.t 31) (.t 36) (oB false)),oM 38 37,gA 39 5 2 38 true,gD 40 39 38 true,gA 41 5 3 38 true,gD 42 41 38 true,gW 43 (.call (oF 76) [.t 40,.t 42,oF 77]) 38 true,oW 44 (.pick (.t 38) (.t 43) (oB false)),oM 4 44]
 .ret))}
theorem c26:compFunc Try.prog Try.f26 .pure=some t26:=by kernel_rfl
def t28:DFunc:={ntmps:=11,results:=[],mode:=.full,body :=
 (oQ [oM 3 0,oW 4 (.len 1 (.t 3)),oM 2 4]
 (.region [oM 5 0,oM 6 2,oM 7 2,oW 8 (.conv .u64 (.t 7)),oW 9 (.call (oF 79) [.t 8]),oW 10 (.call (oF 78) [.t 5,oI 0,.t 6,.t 9])]))}
theorem c28:compFunc Try.prog Try.f28 .full=some t28:=by kernel_rfl
def t29l0:DCode :=
 (.seq (oQ [oM 29 5,oM 30 4,oW 31 (.len 1 (.t 30)),oW 32 (.arith .lss (.t 29) (.t 31))]
 (.cond (.t 32) .skip (.exit 2)))
 (.seq (.block 3 (.seq (.draw [oRM 35 4,oRM 36 5,oR 37 (.indexAddr 1 (.t 35) (.t 36)),oRD 38 37,oRM 39 4,oRM 40 5,oR 41 (.arith .sub (.t 40) (oI 1)),oR 42 (.indexAddr 1 (.t 39) (.t 41)),oRD 43 42,oR 44 (.arith .neq (.t 38) (.t 43))])
 (.cond (.t 44) (oQ [oM 45 0,oM 46 3,oM 47 4,oM 48 5,oW 49 (.indexAddr 1 (.t 47) (.t 48)),oD 50 49,oW 51 (.indexAddr 1 (.t 45) (.t 46)),oS 1 51 50]
 (.region [oM 52 3,oW 53 (.arith .add (.t 52) (oI 1)),oM 3 53])) .skip)))
 (.region [oM 33 5,oW 34 (.arith .add (.t 33) (oI 1)),oM 5 34])))
def t29k0:DCode :=
 (oQ [oM 54 0,oM 55 3,oW 56 (.sliceSl 1 (.t 54) (some (.t 55)) none),oZ (.clear 1 (.int .i64 0) (.t 56))]
 (oQ [oM 57 0,oM 58 3,oW 59 (.sliceSl 1 (.t 57) none (some (.t 58))),oM 2 59]
 .ret))
def t29k1:DCode :=
 (.region [oM 14 3,oW 15 (.arith .add (.t 14) (oI 1)),oM 3 15])
def t29l1:DCode :=
 (.seq (oQ [oM 10 3,oM 11 0,oW 12 (.len 1 (.t 11)),oW 13 (.arith .lss (.t 10) (.t 12))]
 (.cond (.t 13) .skip (.exit 0)))
 (.seq (.block 1 (.seq (.draw [oRM 16 0,oRM 17 3,oR 18 (.indexAddr 1 (.t 16) (.t 17)),oRD 19 18,oRM 20 0,oRM 21 3,oR 22 (.arith .sub (.t 21) (oI 1)),oR 23 (.indexAddr 1 (.t 20) (.t 22)),oRD 24 23,oR 25 (.arith .eql (.t 19) (.t 24))])
 (.cond (.t 25) (oQ [oM 26 0,oM 27 3,oW 28 (.sliceSl 1 (.t 26) (some (.t 27)) none),oM 4 28]
 (.seq (oQ [oW 5 (.move (oI 1))]
 (.block 2 (.loop t29l0)))
 t29k0)) .skip)))
 t29k1))
def t29k2:DCode :=
 (oQ [oM 60 0,oM 2 60]
 .ret)
def t29:DFunc:={ntmps:=61,results:=[.t 2],mode:=.full,body :=
 (oQ [oW 2 (.move (.c .nsl))]
 (.seq (oQ [oM 6 0,oW 7 (.len 1 (.t 6)),oW 8 (.arith .lss (.t 7) (oI 2))]
 (.cond (.t 8) (oQ [oM 9 0,oM 2 9]
 .ret) .skip))
 (.seq (oQ [oW 3 (.move (oI 1))]
 (.block 0 (.loop t29l1)))
 t29k2)))}
theorem c29:compFunc Try.prog Try.f29 .full=some t29:=by kernel_rfl
def t30:DFunc:={ntmps:=24,results:=[(.cell 2 (some 6))],mode:=.full,body :=
 (oQ [oW 1 (.box 30 6 (.t 0)),oW 2 (.alloc 30 6 (.agg [.int .i64 0,.nsl,.nsl,.nsl,.nsl,.nsl]))]
 (.seq (.draw [oRA 3 1 1,oRD 4 3,nK 5 (.call (oF 27) [.t 4]) .create 0,oRA 6 2 1,oRD 7 6,nK 8 (.call (oF 80) [.t 7]) .create 0,oRA 9 3 1,oRD 10 9,nK 11 (.call (oF 81) [.t 10]) .create 0,oRA 12 4 1,oRD 13 12,nK 14 (.call (oF 62) [.t 13]) .create 0,oRA 15 5 1,oRD 16 15,nK 17 (.call (oF 82) [.t 16]) .write 4,nK 18 (.fieldAddr 1 (.t 1)) .read 1,⟨none,.store 1 (.t 18) (.t 5),none,.write,5,false⟩,nK 19 (.fieldAddr 2 (.t 1)) .read 6,⟨none,.store 1 (.t 19) (.t 8),none,.write,6,false⟩,nK 20 (.fieldAddr 3 (.t 1)) .read 7,⟨none,.store 1 (.t 20) (.t 11),none,.write,7,false⟩,nK 21 (.fieldAddr 4 (.t 1)) .read 8,⟨none,.store 1 (.t 21) (.t 14),none,.write,8,false⟩,nK 22 (.fieldAddr 5 (.t 1)) .read 9,⟨none,.store 1 (.t 22) (.t 17),none,.write,9,false⟩])
 (oQ [oL 23 6 1,oS 6 2 23]
 .ret)))}
theorem c30:compFunc Try.prog Try.f30 .full=some t30:=by kernel_rfl
def t31:DFunc:={ntmps:=12,results:=[.t 4,.t 5],mode:=.pure,body :=
 (oQ [oW 2 (.box 30 6 (.t 0)),oW 3 (.box 35 2 (.t 1)),oW 4 (.move (oI 0)),oW 5 (.move (oB false))]
 (oQ [oA 6 3 2,oD 7 6,oL 8 2 3,oW 9 (.call (oF 83) [.t 7,.t 8,oF 41]),oX 10 9 0,oX 11 9 1,oM 4 10,oM 5 11]
 .ret))}
theorem c31:compFunc Try.prog Try.f31 .pure=some t31:=by kernel_rfl
def t32:DFunc:={ntmps:=12,results:=[.t 4,.t 5],mode:=.pure,body :=
 (oQ [oW 2 (.box 30 6 (.t 0)),oW 3 (.box 35 2 (.t 1)),oW 4 (.move (oI 0)),oW 5 (.move (oB false))]
 (oQ [oA 6 2 2,oD 7 6,oL 8 2 3,oW 9 (.call (oF 84) [.t 7,.t 8,oF 85]),oX 10 9 0,oX 11 9 1,oM 4 10,oM 5 11]
 .ret))}
theorem c32:compFunc Try.prog Try.f32 .pure=some t32:=by kernel_rfl
def t33:DFunc:={ntmps:=95,results:=[.t 6],mode:=.split,body :=
 (oQ [oW 6 (.move (.c .nsl))]
 (oQ [oM 10 0,oM 11 1,oW 12 (.sliceSl 4 (.t 10) (some (.t 11)) none)]
 (oQ [oM 13 2,oW 14 (.len 1 (.t 13)),oM 7 14]
 (.seq (oQ [oM 15 7,oW 16 (.arith .eql (.t 15) (oI 0))]
 (.cond (.t 16) (oQ [oM 17 0,oM 6 17]
 .ret) .skip))
 (oQ [oM 18 0,oW 19 (.len 1 (.t 18)),oM 8 19]
 (.seq (oQ [oM 20 1,oM 21 8,oW 22 (.arith .eql (.t 20) (.t 21))]
 (.cond (.t 22) (oQ [oM 23 0,oM 24 2,oW 25 (.append 41 4 48 (.t 23) (.t 24)),oM 6 25]
 .ret) .skip))
 (.seq (oQ [oM 26 8,oM 27 7,oW 28 (.arith .add (.t 26) (.t 27)),oM 29 0,oW 30 (.cap (.t 29)),oW 31 (.arith .gtr (.t 28) (.t 30))]
 (.cond (.t 31) (oQ [oM 32 0,oM 33 1,oW 34 (.sliceSl 4 (.t 32) none (some (.t 33))),oM 35 8,oM 36 7,oW 37 (.arith .add (.t 35) (.t 36)),oM 38 1,oW 39 (.arith .sub (.t 37) (.t 38)),oW 40 (.appendZ 41 4 48 (.agg [.int .i64 0,.int .i64 0,.nsl,.int .i64 0]) (.t 34) (.t 39)),oM 9 40]
 (oQ [oM 41 9,oM 42 1,oW 43 (.sliceSl 4 (.t 41) (some (.t 42)) none),oM 44 2,oW 45 (.copy 4 (.t 43) (.t 44))]
 (.seq (.draw [oRM 46 9,oRM 47 1,oRM 48 7,oR 49 (.arith .add (.t 47) (.t 48)),oR 50 (.sliceSl 4 (.t 46) (some (.t 49)) none),oRM 51 0,oRM 52 1,oR 53 (.sliceSl 4 (.t 51) (some (.t 52)) none),oW 54 (.copy 4 (.t 50) (.t 53))])
 (oQ [oM 55 9,oM 6 55]
 .ret)))) .skip))
 (oQ [oM 56 0,oM 57 8,oM 58 7,oW 59 (.arith .add (.t 57) (.t 58)),oW 60 (.sliceSl 4 (.t 56) none (some (.t 59))),oM 0 60]
 (.seq (oQ [oM 61 2,oM 62 0,oM 63 1,oM 64 7,oW 65 (.arith .add (.t 63) (.t 64)),oW 66 (.sliceSl 4 (.t 62) (some (.t 65)) none),oW 67 (.call (oF 86) [.t 61,.t 66]),oW 68 (.un .not (.t 67))]
 (.cond (.t 68) (.seq (.draw [oRM 69 0,oRM 70 1,oRM 71 7,oR 72 (.arith .add (.t 70) (.t 71)),oR 73 (.sliceSl 4 (.t 69) (some (.t 72)) none),oRM 74 0,oRM 75 1,oR 76 (.sliceSl 4 (.t 74) (some (.t 75)) none),oW 77 (.copy 4 (.t 73) (.t 76))])
 (oQ [oM 78 0,oM 79 1,oW 80 (.sliceSl 4 (.t 78) (some (.t 79)) none),oM 81 2,oW 82 (.copy 4 (.t 80) (.t 81))]
 (oQ [oM 83 0,oM 6 83]
 .ret))) .skip))
 (oQ [oM 84 0,oM 85 8,oW 86 (.sliceSl 4 (.t 84) (some (.t 85)) none),oM 87 2,oW 88 (.copy 4 (.t 86) (.t 87))]
 (oQ [oM 89 0,oM 90 1,oW 91 (.sliceSl 4 (.t 89) (some (.t 90)) none),oM 92 7,oW 93 (.call (oF 87) [.t 91,.t 92])]
 (oQ [oM 94 0,oM 6 94]
 .ret))))))))))))}
theorem c33:compFunc Try.prog Try.f33 .split=some t33:=by kernel_rfl
def t34:DFunc:={ntmps:=95,results:=[.t 6],mode:=.split,body :=
 (oQ [oW 6 (.move (.c .nsl))]
 (oQ [oM 10 0,oM 11 1,oW 12 (.sliceSl 2 (.t 10) (some (.t 11)) none)]
 (oQ [oM 13 2,oW 14 (.len 1 (.t 13)),oM 7 14]
 (.seq (oQ [oM 15 7,oW 16 (.arith .eql (.t 15) (oI 0))]
 (.cond (.t 16) (oQ [oM 17 0,oM 6 17]
 .ret) .skip))
 (oQ [oM 18 0,oW 19 (.len 1 (.t 18)),oM 8 19]
 (.seq (oQ [oM 20 1,oM 21 8,oW 22 (.arith .eql (.t 20) (.t 21))]
 (.cond (.t 22) (oQ [oM 23 0,oM 24 2,oW 25 (.append 35 2 16 (.t 23) (.t 24)),oM 6 25]
 .ret) .skip))
 (.seq (oQ [oM 26 8,oM 27 7,oW 28 (.arith .add (.t 26) (.t 27)),oM 29 0,oW 30 (.cap (.t 29)),oW 31 (.arith .gtr (.t 28) (.t 30))]
 (.cond (.t 31) (oQ [oM 32 0,oM 33 1,oW 34 (.sliceSl 2 (.t 32) none (some (.t 33))),oM 35 8,oM 36 7,oW 37 (.arith .add (.t 35) (.t 36)),oM 38 1,oW 39 (.arith .sub (.t 37) (.t 38)),oW 40 (.appendZ 35 2 16 (.agg [.int .i64 0,.int .i64 0]) (.t 34) (.t 39)),oM 9 40]
 (oQ [oM 41 9,oM 42 1,oW 43 (.sliceSl 2 (.t 41) (some (.t 42)) none),oM 44 2,oW 45 (.copy 2 (.t 43) (.t 44))]
 (.seq (.draw [oRM 46 9,oRM 47 1,oRM 48 7,oR 49 (.arith .add (.t 47) (.t 48)),oR 50 (.sliceSl 2 (.t 46) (some (.t 49)) none),oRM 51 0,oRM 52 1,oR 53 (.sliceSl 2 (.t 51) (some (.t 52)) none),oW 54 (.copy 2 (.t 50) (.t 53))])
 (oQ [oM 55 9,oM 6 55]
 .ret)))) .skip))
 (oQ [oM 56 0,oM 57 8,oM 58 7,oW 59 (.arith .add (.t 57) (.t 58)),oW 60 (.sliceSl 2 (.t 56) none (some (.t 59))),oM 0 60]
 (.seq (oQ [oM 61 2,oM 62 0,oM 63 1,oM 64 7,oW 65 (.arith .add (.t 63) (.t 64)),oW 66 (.sliceSl 2 (.t 62) (some (.t 65)) none),oW 67 (.call (oF 88) [.t 61,.t 66]),oW 68 (.un .not (.t 67))]
 (.cond (.t 68) (.seq (.draw [oRM 69 0,oRM 70 1,oRM 71 7,oR 72 (.arith .add (.t 70) (.t 71)),oR 73 (.sliceSl 2 (.t 69) (some (.t 72)) none),oRM 74 0,oRM 75 1,oR 76 (.sliceSl 2 (.t 74) (some (.t 75)) none),oW 77 (.copy 2 (.t 73) (.t 76))])
 (oQ [oM 78 0,oM 79 1,oW 80 (.sliceSl 2 (.t 78) (some (.t 79)) none),oM 81 2,oW 82 (.copy 2 (.t 80) (.t 81))]
 (oQ [oM 83 0,oM 6 83]
 .ret))) .skip))
 (oQ [oM 84 0,oM 85 8,oW 86 (.sliceSl 2 (.t 84) (some (.t 85)) none),oM 87 2,oW 88 (.copy 2 (.t 86) (.t 87))]
 (oQ [oM 89 0,oM 90 1,oW 91 (.sliceSl 2 (.t 89) (some (.t 90)) none),oM 92 7,oW 93 (.call (oF 89) [.t 91,.t 92])]
 (oQ [oM 94 0,oM 6 94]
 .ret))))))))))))}
theorem c34:compFunc Try.prog Try.f34 .split=some t34:=by kernel_rfl
def t35:DFunc:={ntmps:=2,results:=[.t 0],mode:=.pure,body :=
 (oQ [oW 0 (.move (.c .nsl))]
 (oQ [oW 1 (.buildSlice 9 1 (.str []) 7 [(0,(.c (.str [97]))),(1,(.c (.str [98]))),(2,(.c (.str [99]))),(3,(.c (.str [100]))),(4,(.c (.str [101]))),(5,(.c (.str [102]))),(6,(.c (.str [103])))]),oM 0 1]
 .ret))}
theorem c35:compFunc Try.prog Try.f35 .pure=some t35:=by kernel_rfl
def t36:DFunc:={ntmps:=44,results:=[(.cell 4 (some 5))],mode:=.pure,body :=
 (oQ [oW 4 (.alloc 63 5 (.agg [.str [],.int .i64 0,.int .i64 0,.int .i64 0,.str []]))]
 (oQ [oM 6 0,oW 7 (.build [.str [],.int .i64 0,.int .i64 0,.int .i64 0,.str []] [(0,1,.t 6)]),oW 5 (.alloc 63 5 (.agg [.str [],.int .i64 0,.int .i64 0,.int .i64 0,.str []])),oS 5 5 7]
 (.seq (oQ [oM 8 1,oW 9 (.call (oF 8) [.t 8,oI 0,oI 3])]
 (.block 0 (.seq (oQ [oW 19 (.arith .eql (.t 9) (oI 0)),oM 18 19]
 (.cond (.t 18) .skip (.region [oW 20 (.arith .eql (.t 9) (oI 1)),oM 18 20])))
 (.cond (.t 18) (oQ [oM 21 1,oW 22 (.arith .quo (.t 21) (oI 4)),oW 23 (.call (oF 8) [.t 22,oI 0,oI 9]),oA 24 1 5,oZ (.store 1 (.t 24) (oI 1)),oA 25 2 5,oS 1 25 23]
 (.draw [oRA 26 2 5,oRD 27 26,oRM 28 1,oR 29 (.arith .quo (.t 28) (oI 40)),nK 30 (.call (oF 8) [.t 29,oI 0,oI 9]) .create 0,nK 31 (.arith .add (.t 27) (.t 30)) .read 1,nK 32 (.fieldAddr 3 (.t 5)) .read 1,⟨none,.store 1 (.t 32) (.t 31),none,.write,1,false⟩])) (oQ [oW 34 (.arith .eql (.t 9) (oI 2)),oM 33 34]
 (.cond (.t 33) (.draw [oW 35 (.call (oF 90) []),oRM 36 1,oR 37 (.arith .quo (.t 36) (oI 4)),nK 38 (.call (oF 8) [.t 37,oI 0,oI 6]) .write 1,nK 39 (.indexAddr 1 (.t 35) (.t 38)) .read 2,nK 40 (.load none (.t 39)) .read 2,oRA 41 1 5,⟨none,.store 1 (.t 41) (oI 2),none,.create,2,false⟩,nK 42 (.fieldAddr 4 (.t 5)) .read 3,⟨none,.store 1 (.t 42) (.t 40),none,.write,3,false⟩]) (.draw [oW 10 (.call (oF 90) []),oRM 11 1,oR 12 (.arith .quo (.t 11) (oI 4)),nK 13 (.call (oF 8) [.t 12,oI 0,oI 6]) .write 1,nK 14 (.indexAddr 1 (.t 10) (.t 13)) .read 2,nK 15 (.load none (.t 14)) .read 2,oRA 16 1 5,⟨none,.store 1 (.t 16) (oI 3),none,.create,2,false⟩,nK 17 (.fieldAddr 4 (.t 5)) .read 3,⟨none,.store 1 (.t 17) (.t 15),none,.write,3,false⟩])))))))
 (oQ [oL 43 5 5,oS 5 4 43]
 .ret))))}
theorem c36:compFunc Try.prog Try.f36 .pure=some t36:=by kernel_rfl
def t37:DFunc:={ntmps:=15,results:=[.t 4],mode:=.pure,body :=
 (oQ [oW 4 (.move (oI 0))]
 (.seq (oQ [oM 5 0,oW 6 (.len 1 (.t 5)),oW 7 (.arith .eql (.t 6) (oI 0))]
 (.cond (.t 7) (oQ [oW 4 (.move (oI 0))]
 .ret) .skip))
 (oQ [oM 8 0,oM 9 1,oM 10 0,oW 11 (.len 1 (.t 10)),oW 12 (.arith .rem (.t 9) (.t 11)),oW 13 (.indexAddr 1 (.t 8) (.t 12)),oD 14 13,oM 4 14]
 .ret)))}
theorem c37:compFunc Try.prog Try.f37 .pure=some t37:=by kernel_rfl
def t38:DFunc:={ntmps:=33,results:=[.t 6],mode:=.full,body :=
 (oQ [oW 6 (.move (.c .nsl))]
 (oQ [oM 8 0,oM 9 1,oM 10 2,oM 11 0,oW 12 (.len 1 (.t 11)),oW 13 (.slice3 (.t 8) (.t 9) (.t 10) (.t 12))]
 (.seq (oQ [oM 14 1,oM 15 2,oW 16 (.arith .eql (.t 14) (.t 15))]
 (.cond (.t 16) (oQ [oM 17 0,oM 6 17]
 .ret) .skip))
 (oQ [oM 18 0,oW 19 (.len 1 (.t 18)),oM 7 19]
 (.seq (.draw [oRM 20 0,oRM 21 1,oR 22 (.sliceSl 4 (.t 20) none (some (.t 21))),oRM 23 0,oRM 24 2,oR 25 (.sliceSl 4 (.t 23) (some (.t 24)) none),oW 26 (.append 41 4 48 (.t 22) (.t 25)),nK 0 (.move (.t 26)) .read 1])
 (oQ [oM 27 0,oM 28 0,oW 29 (.len 1 (.t 28)),oM 30 7,oW 31 (.sliceSl 4 (.t 27) (some (.t 29)) (some (.t 30))),oZ (.clear 4 (.agg [.int .i64 0,.int .i64 0,.nsl,.int .i64 0]) (.t 31))]
 (oQ [oM 32 0,oM 6 32]
 .ret)))))))}
theorem c38:compFunc Try.prog Try.f38 .full=some t38:=by kernel_rfl
def t39l0:DCode :=
 (.seq (oQ [oM 16 6,oM 17 0,oW 18 (.len 1 (.t 17)),oW 19 (.arith .lss (.t 16) (.t 18))]
 (.cond (.t 19) .skip (.exit 0)))
 (.seq (.block 1 (oQ [oM 22 0,oM 23 6,oW 24 (.indexAddr 7 (.t 22) (.t 23)),oL 25 7 24,oW 7 (.alloc 53 7 (.agg [.int .i64 0,.int .i64 0,.int .i64 0,.int .i64 0,.nsl,.int .i64 0,.bool false])),oS 7 7 25]
 (oQ [oM 26 1,oL 27 7 7,oW 28 (.call (.t 26) [.t 27]),oW 29 (.un .not (.t 28))]
 (.cond (.t 29) (oQ [oM 30 0,oM 31 5,oL 32 7 7,oW 33 (.indexAddr 7 (.t 30) (.t 31)),oS 7 33 32]
 (.region [oM 34 5,oW 35 (.arith .add (.t 34) (oI 1)),oM 5 35])) .skip))))
 (.region [oM 20 6,oW 21 (.arith .add (.t 20) (oI 1)),oM 6 21])))
def t39k0:DCode :=
 (oQ [oM 36 0,oM 37 5,oW 38 (.sliceSl 7 (.t 36) (some (.t 37)) none),oZ (.clear 7 (.agg [.int .i64 0,.int .i64 0,.int .i64 0,.int .i64 0,.nsl,.int .i64 0,.bool false]) (.t 38))]
 (oQ [oM 39 0,oM 40 5,oW 41 (.sliceSl 7 (.t 39) none (some (.t 40))),oM 4 41]
 .ret))
def t39:DFunc:={ntmps:=42,results:=[.t 4],mode:=.full,body :=
 (oQ [oW 4 (.move (.c .nsl))]
 (oQ [oM 8 0,oM 9 1,oW 10 (.call (oF 91) [.t 8,.t 9]),oM 5 10]
 (.seq (oQ [oM 11 5,oW 12 (.arith .eql (.t 11) (oI (-1)))]
 (.cond (.t 12) (oQ [oM 13 0,oM 4 13]
 .ret) .skip))
 (.seq (oQ [oM 14 5,oW 15 (.arith .add (.t 14) (oI 1)),oM 6 15]
 (.block 0 (.loop t39l0)))
 t39k0))))}
theorem c39:compFunc Try.prog Try.f39 .full=some t39:=by kernel_rfl
def t40:DFunc:={ntmps:=8,results:=[.t 3],mode:=.pure,body :=
 (oQ [oW 2 (.box 53 7 (.t 0)),oW 3 (.move (oB false))]
 (oQ [oA 4 0 2,oL 5 2 4,oL 6 2 1,oW 7 (.eqa false [1,1] (.t 5) (.t 6)),oM 3 7]
 .ret))}
theorem c40:compFunc Try.prog Try.f40 .pure=some t40:=by kernel_rfl
def t41:DFunc:={ntmps:=17,results:=[.t 4],mode:=.pure,body :=
 (oQ [oW 2 (.box 35 2 (.t 0)),oW 3 (.box 35 2 (.t 1)),oW 4 (.move (oI 0))]
 (.seq (.draw [oRA 5 0 2,oRD 6 5,oRA 7 0 3,oRD 8 7,nK 9 (.call (oF 92) [.t 6,.t 8]) .create 0,oRA 10 1 2,oRD 11 10,oRA 12 1 3,oRD 13 12,nK 14 (.call (oF 92) [.t 11,.t 13]) .write 1,nK 15 (.buildSlice 3 1 (.int .i64 0) 2 [(0,.t 9),(1,.t 14)]) .create 0,nK 16 (.call (oF 51) [.t 15]) .write 3,nK 4 (.move (.t 16)) .read 4])
 .ret))}
theorem c41:compFunc Try.prog Try.f41 .pure=some t41:=by kernel_rfl
def t42l0:DCode :=
 (.seq (oQ [oM 6 5,oM 7 0,oW 8 (.len 1 (.t 7)),oW 9 (.arith .lss (.t 6) (.t 8))]
 (.cond (.t 9) .skip (.exit 0)))
 (.seq (.block 1 (.seq (.draw [oRM 13 0,oRM 14 5,oR 15 (.arith .sub (.t 14) (oI 1)),oR 16 (.indexAddr 1 (.t 13) (.t 15)),oRD 17 16,oRM 18 0,oRM 19 5,oR 20 (.indexAddr 1 (.t 18) (.t 19)),oRD 21 20,oRM 12 1,oW 22 (.call (.t 12) [.t 17,.t 21]),nK 23 (.un .not (.t 22)) .read 1])
 (.cond (.t 23) (oQ [oW 4 (.move (oB false))]
 .ret) .skip)))
 (.region [oM 10 5,oW 11 (.arith .add (.t 10) (oI 1)),oM 5 11])))
def t42k0:DCode :=
 (oQ [oW 4 (.move (oB true))]
 .ret)
def t42:DFunc:={ntmps:=24,results:=[.t 4],mode:=.pure,body :=
 (oQ [oW 4 (.move (oB false))]
 (.seq (oQ [oW 5 (.move (oI 1))]
 (.block 0 (.loop t42l0)))
 t42k0))}
theorem c42:compFunc Try.prog Try.f42 .pure=some t42:=by kernel_rfl
def t43:DFunc:={ntmps:=8,results:=[.t 4],mode:=.pure,body :=
 (oQ [oW 4 (.move (oB false))]
 (oQ [oM 5 0,oM 6 1,oW 7 (.arith .lss (.t 5) (.t 6)),oM 4 7]
 .ret))}
theorem c43:compFunc Try.prog Try.f43 .pure=some t43:=by kernel_rfl
def t44l0:DCode :=
 (.seq (oQ [oM 6 5,oM 7 0,oW 8 (.len 1 (.t 7)),oW 9 (.arith .lss (.t 6) (.t 8))]
 (.cond (.t 9) .skip (.exit 0)))
 (.seq (.block 1 (.seq (.draw [oRM 13 0,oRM 14 5,oR 15 (.arith .sub (.t 14) (oI 1)),oR 16 (.indexAddr 2 (.t 13) (.t 15)),oRL 17 2 16,oRM 18 0,oRM 19 5,oR 20 (.indexAddr 2 (.t 18) (.t 19)),oRL 21 2 20,oRM 12 1,oW 22 (.call (.t 12) [.t 17,.t 21]),nK 23 (.un .not (.t 22)) .read 1])
 (.cond (.t 23) (oQ [oW 4 (.move (oB false))]
 .ret) .skip)))
 (.region [oM 10 5,oW 11 (.arith .add (.t 10) (oI 1)),oM 5 11])))
def t44k0:DCode :=
 (oQ [oW 4 (.move (oB true))]
 .ret)
def t44:DFunc:={ntmps:=24,results:=[.t 4],mode:=.pure,body :=
 (oQ [oW 4 (.move (oB false))]
 (.seq (oQ [oW 5 (.move (oI 1))]
 (.block 0 (.loop t44l0)))
 t44k0))}
theorem c44:compFunc Try.prog Try.f44 .pure=some t44:=by kernel_rfl
def t45l0:DCode :=
 (.seq (oQ [oM 6 5,oM 7 0,oW 8 (.len 1 (.t 7)),oW 9 (.arith .lss (.t 6) (.t 8))]
 (.cond (.t 9) .skip (.exit 0)))
 (.seq (.block 1 (.seq (.draw [oRM 13 0,oRM 14 5,oR 15 (.arith .sub (.t 14) (oI 1)),oR 16 (.indexAddr 4 (.t 13) (.t 15)),oRL 17 4 16,oRM 18 0,oRM 19 5,oR 20 (.indexAddr 4 (.t 18) (.t 19)),oRL 21 4 20,oRM 12 1,oW 22 (.call (.t 12) [.t 17,.t 21]),nK 23 (.un .not (.t 22)) .read 1])
 (.cond (.t 23) (oQ [oW 4 (.move (oB false))]
 .ret) .skip)))
 (.region [oM 10 5,oW 11 (.arith .add (.t 10) (oI 1)),oM 5 11])))
def t45k0:DCode :=
 (oQ [oW 4 (.move (oB true))]
 .ret)
def t45:DFunc:={ntmps:=24,results:=[.t 4],mode:=.pure,body :=
 (oQ [oW 4 (.move (oB false))]
 (.seq (oQ [oW 5 (.move (oI 1))]
 (.block 0 (.loop t45l0)))
 t45k0))}
theorem c45:compFunc Try.prog Try.f45 .pure=some t45:=by kernel_rfl
def t46:DFunc:={ntmps:=10,results:=[.t 4],mode:=.pure,body :=
 (oQ [oW 2 (.box 41 4 (.t 0)),oW 3 (.box 41 4 (.t 1)),oW 4 (.move (oB false))]
 (oQ [oA 5 0 2,oL 6 2 5,oA 7 0 3,oL 8 2 7,oW 9 (.call (oF 14) [.t 6,.t 8]),oM 4 9]
 .ret))}
theorem c46:compFunc Try.prog Try.f46 .pure=some t46:=by kernel_rfl
def t47l0:DCode :=
 (.seq (oQ [oM 6 5,oM 7 0,oW 8 (.len 1 (.t 7)),oW 9 (.arith .lss (.t 6) (.t 8))]
 (.cond (.t 9) .skip (.exit 0)))
 (.seq (.block 1 (.seq (.draw [oRM 13 0,oRM 14 5,oR 15 (.arith .sub (.t 14) (oI 1)),oR 16 (.indexAddr 3 (.t 13) (.t 15)),oRL 17 3 16,oRM 18 0,oRM 19 5,oR 20 (.indexAddr 3 (.t 18) (.t 19)),oRL 21 3 20,oRM 12 1,oW 22 (.call (.t 12) [.t 17,.t 21]),nK 23 (.un .not (.t 22)) .read 1])
 (.cond (.t 23) (oQ [oW 4 (.move (oB false))]
 .ret) .skip)))
 (.region [oM 10 5,oW 11 (.arith .add (.t 10) (oI 1)),oM 5 11])))
def t47k0:DCode :=
 (oQ [oW 4 (.move (oB true))]
 .ret)
def t47:DFunc:={ntmps:=24,results:=[.t 4],mode:=.pure,body :=
 (oQ [oW 4 (.move (oB false))]
 (.seq (oQ [oW 5 (.move (oI 1))]
 (.block 0 (.loop t47l0)))
 t47k0))}
theorem c47:compFunc Try.prog Try.f47 .pure=some t47:=by kernel_rfl
def t48:DFunc:={ntmps:=10,results:=[.t 4],mode:=.pure,body :=
 (oQ [oW 2 (.box 88 3 (.t 0)),oW 3 (.box 88 3 (.t 1)),oW 4 (.move (oB false))]
 (oQ [oA 5 0 2,oL 6 2 5,oA 7 0 3,oL 8 2 7,oW 9 (.call (oF 14) [.t 6,.t 8]),oM 4 9]
 .ret))}
theorem c48:compFunc Try.prog Try.f48 .pure=some t48:=by kernel_rfl
def t49l0:DCode :=
 (.seq (oQ [oM 6 5,oM 7 0,oW 8 (.len 1 (.t 7)),oW 9 (.arith .lss (.t 6) (.t 8))]
 (.cond (.t 9) .skip (.exit 0)))
 (.seq (.block 1 (.seq (.draw [oRM 13 0,oRM 14 5,oR 15 (.arith .sub (.t 14) (oI 1)),oR 16 (.indexAddr 7 (.t 13) (.t 15)),oRL 17 7 16,oRM 18 0,oRM 19 5,oR 20 (.indexAddr 7 (.t 18) (.t 19)),oRL 21 7 20,oRM 12 1,oW 22 (.call (.t 12) [.t 17,.t 21]),nK 23 (.un .not (.t 22)) .read 1])
 (.cond (.t 23) (oQ [oW 4 (.move (oB false))]
 .ret) .skip)))
 (.region [oM 10 5,oW 11 (.arith .add (.t 10) (oI 1)),oM 5 11])))
def t49k0:DCode :=
 (oQ [oW 4 (.move (oB true))]
 .ret)
def t49:DFunc:={ntmps:=24,results:=[.t 4],mode:=.pure,body :=
 (oQ [oW 4 (.move (oB false))]
 (.seq (oQ [oW 5 (.move (oI 1))]
 (.block 0 (.loop t49l0)))
 t49k0))}
theorem c49:compFunc Try.prog Try.f49 .pure=some t49:=by kernel_rfl
def t50:DFunc:={ntmps:=18,results:=[.t 4],mode:=.pure,body :=
 (oQ [oW 2 (.box 53 7 (.t 0)),oW 3 (.box 53 7 (.t 1)),oW 4 (.move (oB false))]
 (.seq (.draw [oRA 5 0 2,oRL 6 2 5,oRA 7 0 3,oRL 8 2 7,nK 9 (.call (oF 41) [.t 6,.t 8]) .create 0,oRA 10 2 2,oRL 11 2 10,oRA 12 2 3,oRL 13 2 12,nK 14 (.call (oF 41) [.t 11,.t 13]) .write 1,nK 15 (.buildSlice 3 1 (.int .i64 0) 2 [(0,.t 9),(1,.t 14)]) .create 0,nK 16 (.call (oF 51) [.t 15]) .write 3,nK 17 (.arith .lss (.t 16) (oI 0)) .read 4,nK 4 (.move (.t 17)) .read 4])
 .ret))}
theorem c50:compFunc Try.prog Try.f50 .pure=some t50:=by kernel_rfl
def t51l0:DCode :=
 (oQ [oW 9 (.arith .lss (.t 8) (.t 7))]
 (.seq (.cond (.t 9) .skip (.exit 0))
 (.seq (.block 1 (oQ [oW 10 (.indexAddr 1 (.t 6) (.t 8)),oD 11 10,oM 5 11]
 (oQ [oM 12 5,oM 13 3,oW 14 (.arith .neq (.t 12) (.t 13))]
 (.cond (.t 14) (oQ [oM 15 5,oM 2 15]
 .ret) .skip))))
 (.region [oW 16 (.arith .add (.t 8) (oI 1)),oM 8 16]))))
def t51k0:DCode :=
 (oQ [oM 17 3,oM 2 17]
 .ret)
def t51:DFunc:={ntmps:=18,results:=[.t 2],mode:=.pure,body :=
 (oQ [oW 2 (.move (oI 0))]
 (oQ [oW 3 (.move (oI 0))]
 (.seq (oQ [oM 6 0,oW 7 (.len 1 (.t 6)),oW 8 (.move (oI 0))]
 (.block 0 (.loop t51l0)))
 t51k0)))}
theorem c51:compFunc Try.prog Try.f51 .pure=some t51:=by kernel_rfl
end Go.Dm.Tc
