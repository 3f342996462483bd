/-
The table of functions, brought into the machine's form (Tc, part 0). Written by program (wip/tools/table.lean.txt).
-/
import Derived.Test.YtfnhanajiibciaaGreatMm3
import Derived.Test.YtfnhanajiibciaaGreatRows
import Derived.KernelRfl
namespace Go.Dm.Tc
open Go.Proofs
abbrev oQ (l:List DOper) (c:DCode):DCode:=.seq (.region l) c
abbrev gW (d:Nat) (op:DOp) (g:Nat) (b:Bool):DOper:=⟨some d,op,some (g,b),.write,0,false⟩
abbrev gM (d x g:Nat) (b:Bool):DOper:=⟨some d,.move (.t x),some (g,b),.write,0,false⟩
abbrev gA (d o x g:Nat) (b:Bool):DOper:=⟨some d,.fieldAddr o (.t x),some (g,b),.write,0,false⟩
abbrev gD (d x g:Nat) (b:Bool):DOper:=⟨some d,.load none (.t x),some (g,b),.write,0,false⟩
abbrev gL (d n x g:Nat) (b:Bool):DOper:=⟨some d,.load (some n) (.t x),some (g,b),.write,0,false⟩
abbrev rW (d:Nat) (op:DOp) (g:Nat) (b:Bool):DOper:=⟨some d,op,some (g,b),.read,0,false⟩
abbrev rM (d x g:Nat) (b:Bool):DOper:=⟨some d,.move (.t x),some (g,b),.read,0,false⟩
abbrev rA (d o x g:Nat) (b:Bool):DOper:=⟨some d,.fieldAddr o (.t x),some (g,b),.read,0,false⟩
abbrev rD (d x g:Nat) (b:Bool):DOper:=⟨some d,.load none (.t x),some (g,b),.read,0,false⟩
abbrev rL (d n x g:Nat) (b:Bool):DOper:=⟨some d,.load (some n) (.t x),some (g,b),.read,0,false⟩
abbrev nK (d:Nat) (op:DOp) (k:OKind) (s:Nat):DOper:=⟨some d,op,none,k,s,false⟩
def t10s0:DCode :=
 (.region [oW 38 (.arith .add (.t 23) (oI 1)),oM 23 38])
def t10l0:DCode :=
 (oQ [oW 24 (.arith .lss (.t 23) (.t 22))]
 (.seq (.cond (.t 24) .skip (.exit 0))
 (.seq (.block 1 (oQ [oM 25 23,oM 7 25]
 (.region [oL 27 6 5,oM 28 7,oW 29 (.arith .add (oI 20) (.t 28)),oW 30 (.build [.int .i64 0,.int .i64 0] [(0,1,.t 29)]),oM 31 7,oW 32 (.arith .rem (.t 31) (oI 2)),oW 33 (.arith .add (oI 1) (.t 32)),oW 34 (.build [.int .i64 0,.int .i64 0,.nsl,.int .i64 0] [(0,2,.t 30),(3,1,.t 33)]),oW 35 (.call (oF 19) [.t 27,.t 34]),oM 26 35,oX 36 26 0,oX 37 26 1,oS 6 5 36])))
 t10s0)))
def t10s1:DCode :=
 (.region [oM 58 10,oW 59 (.arith .add (.t 58) (oI 1)),oM 10 59])
def t10l1:DCode :=
 (.seq (oQ [oM 50 10,oM 51 0,oW 52 (.len 1 (.t 51)),oW 53 (.arith .lss (.t 50) (.t 52)),oM 54 53,gM 55 10 54 true,gW 56 (.arith .lss (.t 55) (oI 6)) 54 true,oW 57 (.pick (.t 54) (.t 56) (oB false))]
 (.cond (.t 57) .skip (.exit 2)))
 (.seq (.block 3 (.seq (.draw [oRL 61 6 5,oRM 64 0,oRM 65 10,oR 66 (.indexAddr 2 (.t 64) (.t 65)),oRL 67 2 66,nK 68 (.call (oF 18) [.t 67]) .create 0,oRM 62 10,oR 63 (.build [.int .i64 0,.int .i64 0] [(0,1,.t 62),(1,1,oI 1)]),nK 69 (.call (oF 50) [.t 61,.t 63,.t 68]) .write 1,nK 60 (.move (.t 69)) .read 2,nK 70 (.extract (.t 60) 0) .read 2,nK 11 (.alloc 29 6 (.agg [.int .i64 0,.nsl,.nsl,.nsl,.nsl,.nsl])) .create 0,⟨none,.store 6 (.t 11) (.t 70),none,.write,3,false⟩,nK 71 (.extract (.t 60) 1) .read 2,nK 12 (.move (.t 71)) .read 4])
 (.seq (oQ [oM 72 12,oW 73 (.len 1 (.t 72)),oW 74 (.arith .neq (.t 73) (oI 0))]
 (.cond (.t 74) (oQ [oW 4 (.move (oB false))]
 .ret) .skip))
 (.region [oL 75 6 11,oS 6 5 75]))))
 t10s1))
def t10s2:DCode :=
 (.region [oW 166 (.arith .add (.t 84) (oI 1)),oM 84 166])
def t10l2:DCode :=
 (oQ [oW 85 (.arith .lss (.t 84) (.t 83))]
 (.seq (.cond (.t 85) .skip (.exit 4))
 (.seq (.block 5 (oQ [oM 86 84,oW 87 (.indexAddr 8 (.t 82) (.t 84)),oL 88 8 87,oW 15 (.alloc 86 8 (.agg [.int .i64 0,.int .i64 0,.int .i64 0,.int .i64 0,.int .i64 0,.int .i64 0,.nsl,.nsl])),oM 14 86,oS 8 15 88]
 (oQ [oA 89 1 15,oA 90 0 89,oD 91 90,oW 92 (.arith .eql (.t 91) (oI 4))]
 (.cond (.t 92) (oQ [oM 93 13,oW 94 (.arith .add (.t 93) (oI 1)),oM 13 94]
 (.seq (.draw [oRA 95 1 15,oRA 96 3 95,oRL 97 2 96,oRL 98 2 8,oR 99 (.eqa true [1,1] (.t 97) (.t 98)),oRM 100 99,rM 101 14 100 false,rW 102 (.arith .add (.t 101) (oI 1)) 100 false,rM 103 9 100 false,rW 104 (.len 1 (.t 103)) 100 false,rW 105 (.arith .lss (.t 102) (.t 104)) 100 false,rM 106 105 100 false,rA 107 1 15 106 true,rA 108 1 107 106 true,rL 109 2 108 106 true,rM 110 9 106 true,rM 111 14 106 true,rW 112 (.arith .add (.t 111) (oI 1)) 106 true,rW 113 (.indexAddr 8 (.t 110) (.t 112)) 106 true,rA 114 1 113 106 true,rA 115 1 114 106 true,rL 116 2 115 106 true,gW 117 (.call (oF 56) [.t 109,.t 116]) 106 true,⟨(some 118),.un .not (.t 117),(some (106,true)),.read,1,false⟩,⟨(some 119),.pick (.t 106) (.t 118) (oB false),(some (100,false)),.read,1,false⟩,nK 120 (.pick (.t 100) (oB true) (.t 119)) .read 1])
 (.cond (.t 120) (oQ [oW 4 (.move (oB false))]
 .ret) .skip))) (oQ [oL 122 6 5,oA 123 1 15,oA 124 1 123,oL 125 2 124,oA 126 1 15,oA 127 3 126,oL 128 2 127,oW 129 (.call (oF 32) [.t 122,.t 125,.t 128]),oM 121 129,oX 130 121 0,oX 131 121 1,oW 16 (.alloc 58 7 (.agg [.int .i64 0,.int .i64 0,.int .i64 0,.int .i64 0,.nsl,.int .i64 0,.bool false])),oS 7 16 130,oM 17 131]
 (.seq (.draw [oRM 132 17,oR 133 (.un .not (.t 132)),oRM 134 133,rA 135 6 16 134 false,rD 136 135 134 false,rW 137 (.un .not (.t 136)) 134 false,oR 138 (.pick (.t 134) (oB true) (.t 137)),oRM 139 138,rM 140 13 139 false,rW 141 (.arith .gtr (.t 140) (oI 0)) 139 false,rM 142 141 139 false,rM 143 9 142 true,rM 144 14 142 true,rW 145 (.arith .sub (.t 144) (oI 1)) 142 true,rW 146 (.indexAddr 8 (.t 143) (.t 145)) 142 true,rA 147 1 146 142 true,rA 148 0 147 142 true,rD 149 148 142 true,rW 150 (.arith .eql (.t 149) (oI 4)) 142 true,rW 151 (.pick (.t 142) (.t 150) (oB false)) 139 false,rM 152 151 139 false,rM 153 9 152 true,rM 154 14 152 true,rW 155 (.arith .sub (.t 154) (oI 1)) 152 true,rW 156 (.indexAddr 8 (.t 153) (.t 155)) 152 true,rA 157 1 156 152 true,rA 158 1 157 152 true,rL 159 2 158 152 true,rA 160 1 15 152 true,rA 161 1 160 152 true,rL 162 2 161 152 true,rW 163 (.eqa false [1,1] (.t 159) (.t 162)) 152 true,rW 164 (.pick (.t 152) (.t 163) (oB false)) 139 false,oR 165 (.pick (.t 139) (oB true) (.t 164))])
 (.cond (.t 165) (oQ [oW 4 (.move (oB false))]
 .ret) .skip)))))))
 t10s2)))
def t10k0:DCode :=
 (oQ [oM 167 13,oM 168 6,oW 169 (.arith .eql (.t 167) (.t 168)),oM 170 169,gL 171 6 5 170 true,gW 172 (.call (oF 41) [.t 171]) 170 true,oW 173 (.pick (.t 170) (.t 172) (oB false)),oM 174 173,gW 175 (.call (oF 55) []) 174 true,oW 176 (.pick (.t 174) (.t 175) (oB false)),oM 4 176]
 .ret)
def t10k1:DCode :=
 (oQ [oL 77 6 5,oL 78 2 8,oW 79 (.call (oF 51) [.t 77,.t 78]),oM 76 79,oX 80 76 0,oX 81 76 1,oS 6 5 80,oM 9 81]
 (oQ [oW 13 (.move (oI 0))]
 (.seq (oQ [oM 82 9,oW 83 (.len 1 (.t 82)),oW 84 (.move (oI 0))]
 (.block 4 (.loop t10l2)))
 t10k0)))
def t10k2:DCode :=
 (oQ [oW 39 (.build [.int .i64 0,.int .i64 0] [(0,1,oI 30)]),oW 8 (.alloc 37 2 (.agg [.int .i64 0,.int .i64 0])),oS 2 8 39]
 (oQ [oL 41 6 5,oL 42 2 8,oW 43 (.call (oF 50) [.t 41,.t 42,.c .nsl]),oM 40 43,oX 44 40 0,oX 45 40 1,oS 6 5 44,oM 9 45]
 (.seq (oQ [oM 46 9,oW 47 (.len 1 (.t 46)),oM 48 6,oW 49 (.arith .neq (.t 47) (.t 48))]
 (.cond (.t 49) (oQ [oW 4 (.move (oB false))]
 .ret) .skip))
 (.seq (oQ [oW 10 (.move (oI 0))]
 (.block 2 (.loop t10l1)))
 t10k1))))
def t10:DFunc:={ntmps:=177,results:=[.t 4],mode:=.pure,body :=
 (oQ [oW 4 (.move (oB false))]
 (oQ [oW 18 (.buildSlice 3 1 (.int .i64 0) 2 [(0,oI 1),(1,oI 2)]),oW 19 (.call (oF 15) [oI 0,.t 18]),oW 5 (.alloc 29 6 (.agg [.int .i64 0,.nsl,.nsl,.nsl,.nsl,.nsl])),oS 6 5 19]
 (oQ [oM 20 1,oW 21 (.call (oF 16) [.t 20,oI 1,oI 3]),oM 6 21]
 (.seq (oQ [oM 22 6,oW 23 (.move (oI 0))]
 (.block 0 (.loop t10l0)))
 t10k2))))}
theorem c10:compFunc Tryz.prog Tryz.f10 .pure=some t10:=by kernel_rfl
def t15:DFunc:={ntmps:=14,results:=[(.cell 4 (some 6))],mode:=.pure,body :=
 (oQ [oW 4 (.alloc 29 6 (.agg [.int .i64 0,.nsl,.nsl,.nsl,.nsl,.nsl]))]
 (oQ [oM 6 1,oW 7 (.call (oF 64) [.t 6]),oM 5 7]
 (oQ [oM 8 5,oW 9 (.call (oF 65) [.t 8])]
 (oQ [oM 10 0,oM 11 5,oW 12 (.call (oF 66) [.t 11]),oW 13 (.build [.int .i64 0,.nsl,.nsl,.nsl,.nsl,.nsl] [(0,1,.t 10),(1,1,.t 12)]),oS 6 4 13]
 .ret))))}
theorem c15:compFunc Tryz.prog Tryz.f15 .pure=some t15:=by kernel_rfl
def t16:DFunc:={ntmps:=24,results:=[.t 6],mode:=.pure,body :=
 (oQ [oW 6 (.move (oI 0))]
 (oQ [oM 7 0,oM 8 2,oM 9 1,oW 10 (.arith .sub (.t 8) (.t 9)),oW 11 (.arith .add (.t 10) (oI 1)),oW 12 (.arith .rem (.t 7) (.t 11)),oM 0 12]
 (.seq (oQ [oM 13 0,oW 14 (.arith .lss (.t 13) (oI 0))]
 (.cond (.t 14) (.region [oM 15 0,oM 16 2,oW 17 (.arith .add (.t 15) (.t 16)),oM 18 1,oW 19 (.arith .sub (.t 17) (.t 18)),oW 20 (.arith .add (.t 19) (oI 1)),oM 0 20]) .skip))
 (oQ [oM 21 1,oM 22 0,oW 23 (.arith .add (.t 21) (.t 22)),oM 6 23]
 .ret))))}
theorem c16:compFunc Tryz.prog Tryz.f16 .pure=some t16:=by kernel_rfl
def t18l0:DCode :=
 (oQ [oW 9 (.arith .lss (.t 8) (.t 7))]
 (.seq (.cond (.t 9) .skip (.exit 0))
 (.seq (.block 1 (oQ [oM 10 8,oW 11 (.indexAddr 1 (.t 6) (.t 8)),oD 12 11,oM 4 10,oM 5 12]
 (oQ [oM 13 4,oA 14 0 1,oD 15 14,oW 16 (.len 1 (.t 15)),oW 17 (.arith .lss (.t 13) (.t 16)),oM 18 17,gA 19 0 1 18 true,gD 20 19 18 true,gM 21 4 18 true,gW 22 (.indexAddr 1 (.t 20) (.t 21)) 18 true,gD 23 22 18 true,gW 24 (.arith .and (.t 23) (oI 1)) 18 true,gW 25 (.arith .eql (.t 24) (oI 1)) 18 true,oW 26 (.pick (.t 18) (.t 25) (oB false)),oM 27 26,gM 28 3 27 true,gW 29 (.len 1 (.t 28)) 27 true,gW 30 (.arith .lss (.t 29) (oI 5)) 27 true,oW 31 (.pick (.t 27) (.t 30) (oB false))]
 (.cond (.t 31) (.region [oM 32 3,oM 33 5,oA 34 1 1,oD 35 34,oM 36 4,oW 37 (.call (oF 69) [.t 35,.t 36]),oW 38 (.call (oF 68) [.t 33,.t 37]),oW 39 (.buildSlice 62 5 (.agg [.str [],.int .i64 0,.int .i64 0,.int .i64 0,.str []]) 1 [(0,.t 38)]),oW 40 (.append 62 5 56 (.t 32) (.t 39)),oM 3 40]) .skip))))
 (.region [oW 41 (.arith .add (.t 8) (oI 1)),oM 8 41]))))
def t18k0:DCode :=
 (oQ [oM 42 3,oM 2 42]
 .ret)
def t18:DFunc:={ntmps:=43,results:=[.t 2],mode:=.pure,body :=
 (oQ [oW 1 (.box 32 2 (.t 0)),oW 2 (.move (.c .nsl))]
 (oQ [oW 3 (.move (.c .nsl))]
 (.seq (oQ [oW 6 (.call (oF 67) []),oW 7 (.len 1 (.t 6)),oW 8 (.move (oI 0))]
 (.block 0 (.loop t18l0)))
 t18k0)))}
theorem c18:compFunc Tryz.prog Tryz.f18 .pure=some t18:=by kernel_rfl
def t19:DFunc:={ntmps:=44,results:=[(.cell 4 (some 6)),.t 5],mode:=.frz,body :=
 (oQ [oW 2 (.box 29 6 (.t 0)),oW 3 (.box 42 4 (.t 1)),oW 4 (.alloc 29 6 (.agg [.int .i64 0,.nsl,.nsl,.nsl,.nsl,.nsl])),oW 5 (.move (oB false))]
 (oQ [oL 10 6 2,oW 11 (.call (oF 70) [.t 10]),oS 6 2 11]
 (oQ [oL 13 6 2,oA 14 0 3,oL 15 2 14,oW 16 (.call (oF 71) [.t 13,.t 15]),oM 12 16,oX 17 12 0,oX 18 12 1,oM 6 17,oM 7 18]
 (.seq (oQ [oM 19 7]
 (.cond (.t 19) (oQ [oL 20 6 2,oS 6 4 20,oW 5 (.move (oB false))]
 .ret) .skip))
 (oQ [oL 22 6 2,oA 23 0 3,oL 24 2 23,oW 25 (.call (oF 72) [.t 22,.t 24]),oM 21 25,oX 26 21 0,oX 27 21 1,oM 8 26,oM 9 27]
 (oQ [oA 28 2 2,oD 29 28,oM 30 8,oL 31 4 3,oW 32 (.buildSlice 42 4 (.agg [.int .i64 0,.int .i64 0,.nsl,.int .i64 0]) 1 [(0,.t 31)]),oW 33 (.call (oF 73) [.t 29,.t 30,.t 32]),oA 34 2 2,oS 1 34 33]
 (oQ [oA 35 3 2,oD 36 35,oM 37 6,oA 38 0 3,oL 39 2 38,oW 40 (.buildSlice 37 2 (.agg [.int .i64 0,.int .i64 0]) 1 [(0,.t 39)]),oW 41 (.call (oF 74) [.t 36,.t 37,.t 40]),oA 42 3 2,oS 1 42 41]
 (oQ [oL 43 6 2,oS 6 4 43,oW 5 (.move (oB true))]
 .ret))))))))}
theorem c19:compFunc Tryz.prog Tryz.f19 .frz=some t19:=by kernel_rfl
def t23:DFunc:={ntmps:=22,results:=[(.cell 4 (some 4)),.t 5],mode:=.pure,body :=
 (oQ [oW 2 (.box 29 6 (.t 0)),oW 3 (.box 37 2 (.t 1)),oW 4 (.alloc 42 4 (.agg [.int .i64 0,.int .i64 0,.nsl,.int .i64 0])),oW 5 (.move (oB false))]
 (oQ [oL 9 6 2,oL 10 2 3,oW 11 (.call (oF 72) [.t 9,.t 10]),oM 8 11,oX 12 8 0,oX 13 8 1,oM 6 12,oM 7 13]
 (.seq (oQ [oM 14 7,oW 15 (.un .not (.t 14))]
 (.cond (.t 15) (oQ [oW 16 (.build [.int .i64 0,.int .i64 0,.nsl,.int .i64 0] []),oS 4 4 16,oW 5 (.move (oB false))]
 .ret) .skip))
 (oQ [oA 17 2 2,oD 18 17,oM 19 6,oW 20 (.indexAddr 4 (.t 18) (.t 19)),oL 21 4 20,oS 4 4 21,oW 5 (.move (oB true))]
 .ret))))}
theorem c23:compFunc Tryz.prog Tryz.f23 .pure=some t23:=by kernel_rfl
def t31:DFunc:={ntmps:=73,results:=[(.cell 4 (some 6)),.t 5],mode:=.frz,body :=
 (oQ [oW 2 (.box 29 6 (.t 0)),oW 3 (.box 58 7 (.t 1)),oW 4 (.alloc 29 6 (.agg [.int .i64 0,.nsl,.nsl,.nsl,.nsl,.nsl])),oW 5 (.move (oB false))]
 (oQ [oA 11 4 2,oD 12 11,oW 13 (.call (oF 112) [.t 12]),oA 14 4 2,oS 1 14 13]
 (oQ [oL 16 6 2,oA 17 0 3,oL 18 2 17,oW 19 (.call (oF 23) [.t 16,.t 18]),oM 15 19,oX 20 15 0,oX 21 15 1,oW 6 (.alloc 42 4 (.agg [.int .i64 0,.int .i64 0,.nsl,.int .i64 0])),oS 4 6 20,oM 7 21]
 (oQ [oL 23 6 2,oA 24 0 3,oL 25 2 24,oA 26 2 3,oL 27 2 26,oW 28 (.call (oF 113) [.t 23,.t 25,.t 27]),oM 22 28,oX 29 22 0,oX 30 22 1,oM 8 29,oM 9 30]
 (oQ [oA 31 3 6,oD 32 31,oW 33 (.arith .eql (.t 32) (oI (-1))),oM 10 33]
 (.seq (oQ [oM 34 7,oW 35 (.un .not (.t 34)),oM 36 35,gM 37 9 36 false,oW 38 (.pick (.t 36) (oB true) (.t 37)),oM 39 38,gA 40 5 3 39 false,gD 41 40 39 false,gA 42 3 6 39 false,gD 43 42 39 false,gW 44 (.arith .eql (.t 41) (.t 43)) 39 false,gM 45 44 39 false,gM 46 10 45 true,gW 47 (.un .not (.t 46)) 45 true,gW 48 (.pick (.t 45) (.t 47) (oB false)) 39 false,oW 49 (.pick (.t 39) (oB true) (.t 48))]
 (.cond (.t 49) (oQ [oL 50 6 2,oS 6 4 50,oW 5 (.move (oB false))]
 .ret) .skip))
 (oQ [oM 51 10,oW 52 (.un .not (.t 51)),oM 53 52,gL 54 6 2 53 true,gA 55 0 3 53 true,gL 56 2 55 53 true,gA 57 4 3 53 true,gD 58 57 53 true,gW 59 (.call (oF 35) [.t 54,.t 56,.t 58]) 53 true,gW 60 (.un .not (.t 59)) 53 true,oW 61 (.pick (.t 53) (.t 60) (oB false)),oA 62 6 3,oS 1 62 61]
 (oQ [oA 63 4 2,oD 64 63,oM 65 8,oL 66 7 3,oW 67 (.buildSlice 58 7 (.agg [.int .i64 0,.int .i64 0,.int .i64 0,.int .i64 0,.nsl,.int .i64 0,.bool false]) 1 [(0,.t 66)]),oW 68 (.call (oF 114) [.t 64,.t 65,.t 67]),oA 69 4 2,oS 1 69 68]
 (.seq (.draw [⟨(some 70),.load (some 6) (.t 2),none,.read,0,true⟩,oRA 71 6 3,oRD 72 71,⟨none,.store 6 (.t 4) (.t 70),none,.create,0,false⟩,nK 5 (.move (.t 72)) .read 1])
 .ret)))))))))}
theorem c31:compFunc Tryz.prog Tryz.f31 .frz=some t31:=by kernel_rfl
def t32:DFunc:={ntmps:=25,results:=[(.cell 6 (some 7)),.t 7],mode:=.pure,body :=
 (oQ [oW 3 (.box 29 6 (.t 0)),oW 4 (.box 37 2 (.t 1)),oW 5 (.box 37 2 (.t 2)),oW 6 (.alloc 58 7 (.agg [.int .i64 0,.int .i64 0,.int .i64 0,.int .i64 0,.nsl,.int .i64 0,.bool false])),oW 7 (.move (oB false))]
 (oQ [oL 11 6 3,oL 12 2 4,oL 13 2 5,oW 14 (.call (oF 113) [.t 11,.t 12,.t 13]),oM 10 14,oX 15 10 0,oX 16 10 1,oM 8 15,oM 9 16]
 (.seq (oQ [oM 17 9,oW 18 (.un .not (.t 17))]
 (.cond (.t 18) (oQ [oW 19 (.build [.int .i64 0,.int .i64 0,.int .i64 0,.int .i64 0,.nsl,.int .i64 0,.bool false] []),oS 7 6 19,oW 7 (.move (oB false))]
 .ret) .skip))
 (oQ [oA 20 4 3,oD 21 20,oM 22 8,oW 23 (.indexAddr 7 (.t 21) (.t 22)),oL 24 7 23,oS 7 6 24,oW 7 (.move (oB true))]
 .ret))))}
theorem c32:compFunc Tryz.prog Tryz.f32 .pure=some t32:=by kernel_rfl
def t34l0:DCode :=
 (oQ [oW 59 (.arith .lss (.t 58) (.t 57))]
 (.seq (.cond (.t 59) .skip (.exit 0))
 (.seq (.block 1 (oQ [oM 60 58,oW 61 (.indexAddr 7 (.t 56) (.t 58)),oL 62 7 61,oW 14 (.alloc 58 7 (.agg [.int .i64 0,.int .i64 0,.int .i64 0,.int .i64 0,.nsl,.int .i64 0,.bool false])),oM 13 60,oS 7 14 62]
 (oQ [oA 63 0 14,oL 64 2 63,oL 65 2 5,oW 66 (.eqa false [1,1] (.t 64) (.t 65)),oM 67 66,gA 68 6 14 67 true,gD 69 68 67 true,gW 70 (.un .not (.t 69)) 67 true,oW 71 (.pick (.t 67) (.t 70) (oB false)),oM 72 71,gL 73 6 4 72 true,gL 74 2 5 72 true,gA 75 4 14 72 true,gD 76 75 72 true,gW 77 (.call (oF 35) [.t 73,.t 74,.t 76]) 72 true,gW 78 (.un .not (.t 77)) 72 true,oW 79 (.pick (.t 72) (.t 78) (oB false))]
 (.cond (.t 79) (oQ [oA 80 4 4,oD 81 80,oM 82 13,oW 83 (.indexAddr 7 (.t 81) (.t 82)),oA 84 6 83,oZ (.store 1 (.t 84) (oB true))]
 (.region [oM 85 9,oA 86 4 4,oD 87 86,oM 88 13,oW 89 (.indexAddr 7 (.t 87) (.t 88)),oL 90 7 89,oW 91 (.buildSlice 58 7 (.agg [.int .i64 0,.int .i64 0,.int .i64 0,.int .i64 0,.nsl,.int .i64 0,.bool false]) 1 [(0,.t 90)]),oW 92 (.append 58 7 72 (.t 85) (.t 91)),oM 9 92])) .skip))))
 (.region [oW 93 (.arith .add (.t 58) (oI 1)),oM 58 93]))))
def t34k0:DCode :=
 (oQ [oL 94 6 4,oM 95 9,oS 6 8 94,oM 9 95,oW 10 (.move (oB true))]
 .ret)
def t34:DFunc:={ntmps:=96,results:=[(.cell 8 (some 6)),.t 9,.t 10],mode:=.frz,body :=
 (oQ [oW 4 (.box 29 6 (.t 0)),oW 5 (.box 37 2 (.t 1)),oW 6 (.box 37 2 (.t 2)),oW 8 (.alloc 29 6 (.agg [.int .i64 0,.nsl,.nsl,.nsl,.nsl,.nsl])),oW 9 (.move (.c .nsl)),oW 10 (.move (oB false))]
 (oQ [oA 15 4 4,oD 16 15,oW 17 (.call (oF 112) [.t 16]),oA 18 4 4,oS 1 18 17]
 (oQ [oL 20 6 4,oL 21 2 5,oL 22 2 6,oW 23 (.call (oF 113) [.t 20,.t 21,.t 22]),oM 19 23,oX 24 19 0,oX 25 19 1,oM 11 24,oM 12 25]
 (.seq (oQ [oM 26 12,oW 27 (.un .not (.t 26)),oM 28 27,gA 29 4 4 28 false,gD 30 29 28 false,gM 31 11 28 false,gW 32 (.indexAddr 7 (.t 30) (.t 31)) 28 false,gA 33 5 32 28 false,gD 34 33 28 false,gM 35 3 28 false,gW 36 (.arith .neq (.t 34) (.t 35)) 28 false,oW 37 (.pick (.t 28) (oB true) (.t 36))]
 (.cond (.t 37) (oQ [oL 38 6 4,oS 6 8 38,oW 9 (.move (.c .nsl)),oW 10 (.move (oB false))]
 .ret) .skip))
 (oQ [oA 39 4 4,oD 40 39,oM 41 11,oW 42 (.indexAddr 7 (.t 40) (.t 41)),oA 43 6 42,oD 44 43,oM 10 44]
 (oQ [oA 45 4 4,oD 46 45,oM 47 11,oM 48 11,oW 49 (.arith .add (.t 48) (oI 1)),oW 50 (.call (oF 116) [.t 46,.t 47,.t 49]),oA 51 4 4,oS 1 51 50]
 (.seq (oQ [oM 52 10,oW 53 (.un .not (.t 52))]
 (.cond (.t 53) (oQ [oL 54 6 4,oS 6 8 54,oW 9 (.move (.c .nsl)),oW 10 (.move (oB false))]
 .ret) .skip))
 (.seq (oQ [oA 55 4 4,oD 56 55,oW 57 (.len 1 (.t 56)),oW 58 (.move (oI 0))]
 (.block 0 (.loop t34l0)))
 t34k0))))))))}
theorem c34:compFunc Tryz.prog Tryz.f34 .frz=some t34:=by kernel_rfl
def t35:DFunc:={ntmps:=12,results:=[.t 6],mode:=.pure,body :=
 (oQ [oW 3 (.box 29 6 (.t 0)),oW 4 (.box 37 2 (.t 1)),oW 5 (.box 39 1 (.t 2)),oW 6 (.move (oB false))]
 (oQ [oL 7 6 3,oL 8 2 4,oW 9 (.call (oF 40) [.t 7,.t 8]),oW 10 (.makeFunc 117 [.t 5]),oW 11 (.call (oF 106) [.t 9,.t 10]),oM 6 11]
 .ret))}
theorem c35:compFunc Tryz.prog Tryz.f35 .pure=some t35:=by kernel_rfl
def t40l0:DCode :=
 (oQ [oW 12 (.arith .lss (.t 11) (.t 10))]
 (.seq (.cond (.t 12) .skip (.exit 0))
 (.seq (.block 1 (oQ [oW 13 (.indexAddr 7 (.t 9) (.t 11)),oL 14 7 13,oW 7 (.alloc 58 7 (.agg [.int .i64 0,.int .i64 0,.int .i64 0,.int .i64 0,.nsl,.int .i64 0,.bool false])),oS 7 7 14]
 (oQ [oA 15 0 7,oL 16 2 15,oL 17 2 3,oW 18 (.eqa false [1,1] (.t 16) (.t 17))]
 (.cond (.t 18) (.region [oM 19 5,oL 20 7 7,oW 21 (.buildSlice 58 7 (.agg [.int .i64 0,.int .i64 0,.int .i64 0,.int .i64 0,.nsl,.int .i64 0,.bool false]) 1 [(0,.t 20)]),oW 22 (.append 58 7 72 (.t 19) (.t 21)),oM 5 22]) .skip))))
 (.region [oW 23 (.arith .add (.t 11) (oI 1)),oM 11 23]))))
def t40k0:DCode :=
 (oQ [oM 24 5,oM 4 24]
 .ret)
def t40:DFunc:={ntmps:=25,results:=[.t 4],mode:=.pure,body :=
 (oQ [oW 2 (.box 29 6 (.t 0)),oW 3 (.box 37 2 (.t 1)),oW 4 (.move (.c .nsl))]
 (oQ [oW 5 (.move (.c .nsl))]
 (.seq (oQ [oA 8 4 2,oD 9 8,oW 10 (.len 1 (.t 9)),oW 11 (.move (oI 0))]
 (.block 0 (.loop t40l0)))
 t40k0)))}
theorem c40:compFunc Tryz.prog Tryz.f40 .pure=some t40:=by kernel_rfl
def t41l0:DCode :=
 (oQ [oW 11 (.arith .lss (.t 10) (.t 9))]
 (.seq (.cond (.t 11) .skip (.exit 0))
 (.seq (.block 1 (oQ [oW 12 (.indexAddr 7 (.t 8) (.t 10)),oL 13 7 12,oW 4 (.alloc 58 7 (.agg [.int .i64 0,.int .i64 0,.int .i64 0,.int .i64 0,.nsl,.int .i64 0,.bool false])),oS 7 4 13]
 (oQ [oL 15 6 1,oA 16 0 4,oL 17 2 16,oW 18 (.call (oF 23) [.t 15,.t 17]),oM 14 18,oX 19 14 0,oX 20 14 1,oW 5 (.alloc 42 4 (.agg [.int .i64 0,.int .i64 0,.nsl,.int .i64 0])),oS 4 5 19,oM 6 20]
 (oQ [oA 21 6 4,oD 22 21,oW 23 (.un .not (.t 22)),oM 24 23,gA 25 3 5 24 true,gD 26 25 24 true,gW 27 (.arith .neq (.t 26) (oI (-1))) 24 true,oW 28 (.pick (.t 24) (.t 27) (oB false)),oM 29 28,gL 30 6 1 29 true,gA 31 0 4 29 true,gL 32 2 31 29 true,gA 33 4 4 29 true,gD 34 33 29 true,gW 35 (.call (oF 35) [.t 30,.t 32,.t 34]) 29 true,gW 36 (.un .not (.t 35)) 29 true,oW 37 (.pick (.t 29) (.t 36) (oB false))]
 (.cond (.t 37) (oQ [oW 2 (.move (oB false))]
 .ret) .skip)))))
 (.region [oW 38 (.arith .add (.t 10) (oI 1)),oM 10 38]))))
def t41k0:DCode :=
 (oQ [oW 2 (.move (oB true))]
 .ret)
def t41:DFunc:={ntmps:=39,results:=[.t 2],mode:=.pure,body :=
 (oQ [oW 1 (.box 29 6 (.t 0)),oW 2 (.move (oB false))]
 (.seq (oQ [oA 7 4 1,oD 8 7,oW 9 (.len 1 (.t 8)),oW 10 (.move (oI 0))]
 (.block 0 (.loop t41l0)))
 t41k0))}
theorem c41:compFunc Tryz.prog Tryz.f41 .pure=some t41:=by kernel_rfl
def t47:DFunc:={ntmps:=14,results:=[.t 4],mode:=.pure,body :=
 (oQ [oW 4 (.move (oB false))]
 (oQ [oM 8 0,oM 9 1,oW 10 (.call (oF 123) [.t 8,.t 9]),oM 7 10,oX 11 7 0,oX 12 7 1,oM 5 11,oM 6 12]
 (oQ [oM 13 6,oM 4 13]
 .ret)))}
theorem c47:compFunc Tryz.prog Tryz.f47 .pure=some t47:=by kernel_rfl
def t50l0:DCode :=
 (oQ [oW 37 (.arith .lss (.t 36) (.t 35))]
 (.seq (.cond (.t 37) .skip (.exit 0))
 (.seq (.block 1 (oQ [oW 38 (.indexAddr 4 (.t 34) (.t 36)),oL 39 4 38,oW 12 (.alloc 42 4 (.agg [.int .i64 0,.int .i64 0,.nsl,.int .i64 0])),oS 4 12 39]
 (.seq (oQ [oM 40 2,oA 41 2 12,oD 42 41,oW 43 (.call (oF 47) [.t 40,.t 42]),oW 44 (.un .not (.t 43))]
 (.cond (.t 44) (.exit 1) .skip))
 (oQ [oL 46 6 3,oA 47 0 12,oL 48 2 47,oL 49 2 4,oM 50 2,oW 51 (.build [.int .i64 0,.int .i64 0,.int .i64 0,.int .i64 0,.nsl,.int .i64 0,.bool false] [(0,2,.t 48),(2,2,.t 49),(4,1,.t 50),(5,1,(oI (-1)))]),oW 52 (.call (oF 127) [.t 46,.t 51]),oM 45 52,oX 53 45 0,oX 54 45 1,oW 13 (.alloc 29 6 (.agg [.int .i64 0,.nsl,.nsl,.nsl,.nsl,.nsl])),oS 6 13 53,oM 14 54]
 (.draw [oRL 55 6 13,oRM 56 10,oRM 57 14,nK 58 (.append 86 8 96 (.t 56) (.t 57)) .create 0,⟨none,.store 6 (.t 3) (.t 55),none,.write,1,false⟩,nK 10 (.move (.t 58)) .read 2])))))
 (.region [oW 59 (.arith .add (.t 36) (oI 1)),oM 36 59]))))
def t50k0:DCode :=
 (oQ [oL 60 6 3,oM 61 10,oS 6 6 60,oM 7 61]
 .ret)
def t50:DFunc:={ntmps:=62,results:=[(.cell 6 (some 6)),.t 7],mode:=.frz,body :=
 (oQ [oW 3 (.box 29 6 (.t 0)),oW 4 (.box 37 2 (.t 1)),oW 6 (.alloc 29 6 (.agg [.int .i64 0,.nsl,.nsl,.nsl,.nsl,.nsl])),oW 7 (.move (.c .nsl))]
 (oQ [oL 16 6 3,oL 17 2 4,oW 18 (.call (oF 124) [.t 16,.t 17]),oM 15 18,oX 19 15 0,oX 20 15 1,oM 8 19,oM 9 20]
 (.seq (oQ [oM 21 9]
 (.cond (.t 21) (oQ [oL 22 6 3,oS 6 6 22,oW 7 (.move (.c .nsl))]
 .ret) .skip))
 (.seq (.draw [oRA 23 5 3,oRD 24 23,nK 25 (.call (oF 126) [.t 24]) .create 0,oRL 27 2 4,oRM 26 8,oRM 28 2,oR 29 (.build [.int .i64 0,.int .i64 0,.nsl] [(0,2,.t 27),(2,1,.t 28)]),nK 30 (.buildSlice 60 3 (.agg [.int .i64 0,.int .i64 0,.nsl]) 1 [(0,.t 29)]) .create 0,nK 31 (.call (oF 125) [.t 25,.t 26,.t 30]) .write 2,nK 32 (.fieldAddr 5 (.t 3)) .read 3,⟨none,.store 1 (.t 32) (.t 31),none,.write,3,false⟩])
 (oQ [oW 10 (.move (.c .nsl))]
 (.seq (oQ [oA 33 2 3,oD 34 33,oW 35 (.len 1 (.t 34)),oW 36 (.move (oI 0))]
 (.block 0 (.loop t50l0)))
 t50k0))))))}
theorem c50:compFunc Tryz.prog Tryz.f50 .frz=some t50:=by kernel_rfl
def t51l0:DCode :=
 (oQ [oW 34 (.arith .lss (.t 33) (.t 32))]
 (.seq (.cond (.t 34) .skip (.exit 0))
 (.seq (.block 1 (oQ [oW 35 (.indexAddr 4 (.t 31) (.t 33)),oL 36 4 35,oW 10 (.alloc 42 4 (.agg [.int .i64 0,.int .i64 0,.nsl,.int .i64 0])),oS 4 10 36]
 (oQ [oL 38 6 2,oA 39 0 10,oL 40 2 39,oL 41 2 3,oW 42 (.call (oF 129) [.t 38,.t 40,.t 41,(oI (-1))]),oM 37 42,oX 43 37 0,oX 44 37 1,oW 11 (.alloc 29 6 (.agg [.int .i64 0,.nsl,.nsl,.nsl,.nsl,.nsl])),oS 6 11 43,oM 12 44]
 (.draw [oRL 45 6 11,oRM 46 8,oRM 47 12,nK 48 (.append 86 8 96 (.t 46) (.t 47)) .create 0,⟨none,.store 6 (.t 2) (.t 45),none,.write,1,false⟩,nK 8 (.move (.t 48)) .read 2]))))
 (.region [oW 49 (.arith .add (.t 33) (oI 1)),oM 33 49]))))
def t51k0:DCode :=
 (oQ [oL 50 6 2,oM 51 8,oS 6 4 50,oM 5 51]
 .ret)
def t51:DFunc:={ntmps:=52,results:=[(.cell 4 (some 6)),.t 5],mode:=.frz,body :=
 (oQ [oW 2 (.box 29 6 (.t 0)),oW 3 (.box 37 2 (.t 1)),oW 4 (.alloc 29 6 (.agg [.int .i64 0,.nsl,.nsl,.nsl,.nsl,.nsl])),oW 5 (.move (.c .nsl))]
 (oQ [oL 14 6 2,oL 15 2 3,oW 16 (.call (oF 124) [.t 14,.t 15]),oM 13 16,oX 17 13 0,oX 18 13 1,oM 6 17,oM 7 18]
 (.seq (oQ [oM 19 7,oW 20 (.un .not (.t 19))]
 (.cond (.t 20) (oQ [oL 21 6 2,oS 6 4 21,oW 5 (.move (.c .nsl))]
 .ret) .skip))
 (oQ [oA 22 5 2,oD 23 22,oW 24 (.call (oF 126) [.t 23]),oM 25 6,oM 26 6,oW 27 (.arith .add (.t 26) (oI 1)),oW 28 (.call (oF 128) [.t 24,.t 25,.t 27]),oA 29 5 2,oS 1 29 28]
 (oQ [oW 8 (.move (.c .nsl))]
 (.seq (oQ [oA 30 2 2,oD 31 30,oW 32 (.len 1 (.t 31)),oW 33 (.move (oI 0))]
 (.block 0 (.loop t51l0)))
 t51k0))))))}
theorem c51:compFunc Tryz.prog Tryz.f51 .frz=some t51:=by kernel_rfl
def t52:DFunc:={ntmps:=20,results:=[(.cell 6 (some 6)),.t 7],mode:=.frz,body :=
 (oQ [oW 3 (.box 29 6 (.t 0)),oW 5 (.box 84 7 (.t 2)),oW 6 (.alloc 29 6 (.agg [.int .i64 0,.nsl,.nsl,.nsl,.nsl,.nsl])),oW 7 (.move (.c .nsl))]
 (oQ [oL 8 6 3,oA 9 1 5,oL 10 2 9,oA 11 3 5,oL 12 2 11,oA 13 5 5,oD 14 13,oM 15 1,oW 16 (.build [.int .i64 0,.int .i64 0,.int .i64 0,.int .i64 0,.nsl,.int .i64 0,.bool false] [(0,2,.t 10),(2,2,.t 12),(4,1,.t 14),(5,1,.t 15)]),oW 17 (.call (oF 127) [.t 8,.t 16]),oX 18 17 0,oX 19 17 1,oS 6 6 18,oM 7 19]
 .ret))}
theorem c52:compFunc Tryz.prog Tryz.f52 .frz=some t52:=by kernel_rfl
def t54l0:DCode :=
 (oQ [oW 16 (.arith .lss (.t 15) (.t 14))]
 (.seq (.cond (.t 16) .skip (.exit 0))
 (.seq (.block 1 (oQ [oW 17 (.indexAddr 5 (.t 13) (.t 15)),oL 18 5 17,oW 7 (.alloc 62 5 (.agg [.str [],.int .i64 0,.int .i64 0,.int .i64 0,.str []])),oS 5 7 18]
 (.region [oM 19 5,oA 20 0 7,oD 21 20,oL 22 5 7,oZ (.mapUpdate (.prim 2) (.t 19) (.t 21) (.t 22))])))
 (.region [oW 23 (.arith .add (.t 15) (oI 1)),oM 15 23]))))
def t54l1:DCode :=
 (oQ [oW 27 (.arith .lss (.t 26) (.t 25))]
 (.seq (.cond (.t 27) .skip (.exit 2))
 (.seq (.block 3 (oQ [oW 28 (.indexAddr 5 (.t 24) (.t 26)),oL 29 5 28,oW 9 (.alloc 62 5 (.agg [.str [],.int .i64 0,.int .i64 0,.int .i64 0,.str []])),oS 5 9 29]
 (oQ [oM 31 5,oA 32 0 9,oD 33 32,oW 34 (.lookup (.prim 2) (.agg [.str [],.int .i64 0,.int .i64 0,.int .i64 0,.str []]) true (.t 31) (.t 33)),oM 30 34,oX 35 30 0,oX 36 30 1,oW 10 (.alloc 62 5 (.agg [.str [],.int .i64 0,.int .i64 0,.int .i64 0,.str []])),oS 5 10 35,oM 11 36]
 (oQ [oM 37 11,oW 38 (.un .not (.t 37)),oM 39 38,gL 40 5 9 39 false,gL 41 5 10 39 false,gW 42 (.call (oF 130) [.t 40,.t 41]) 39 false,gW 43 (.un .not (.t 42)) 39 false,oW 44 (.pick (.t 39) (oB true) (.t 43))]
 (.cond (.t 44) (oQ [oW 4 (.move (oB false))]
 .ret) .skip)))))
 (.region [oW 45 (.arith .add (.t 26) (oI 1)),oM 26 45]))))
def t54k0:DCode :=
 (oQ [oW 4 (.move (oB true))]
 .ret)
def t54k1:DCode :=
 (.seq (oQ [oM 24 0,oW 25 (.len 1 (.t 24)),oW 26 (.move (oI 0))]
 (.block 2 (.loop t54l1)))
 t54k0)
def t54:DFunc:={ntmps:=46,results:=[.t 4],mode:=.pure,body :=
 (oQ [oW 4 (.move (oB false))]
 (oQ [oW 12 (.makeMap),oM 5 12]
 (.seq (oQ [oM 13 1,oW 14 (.len 1 (.t 13)),oW 15 (.move (oI 0))]
 (.block 0 (.loop t54l0)))
 t54k1)))}
theorem c54:compFunc Tryz.prog Tryz.f54 .pure=some t54:=by kernel_rfl
def t55:DFunc:={ntmps:=95,results:=[.t 0],mode:=.pure,body :=
 (oQ [oW 0 (.move (oB false))]
 (oQ [oW 10 (.build [.int .i64 0,.int .i64 0] [(0,1,oI 3)]),oW 11 (.build [.int .i64 0,.int .i64 0] [(0,1,oI 4)]),oW 12 (.build [.int .i64 0,.int .i64 0] [(0,1,oI 5)]),oW 1 (.alloc 37 2 (.agg [.int .i64 0,.int .i64 0])),oW 2 (.alloc 37 2 (.agg [.int .i64 0,.int .i64 0])),oW 3 (.alloc 37 2 (.agg [.int .i64 0,.int .i64 0])),oS 2 1 10,oS 2 2 11,oS 2 3 12]
 (.seq (.draw [nK 14 (.buildSlice 3 1 (.int .i64 0) 2 [(0,oI 1),(1,oI 2)]) .create 0,nK 15 (.call (oF 15) [oI 0,.t 14]) .create 0,oRL 16 2 1,oR 17 (.build [.int .i64 0,.int .i64 0,.nsl,.int .i64 0] [(0,2,.t 16),(3,1,oI 1)]),nK 18 (.call (oF 19) [.t 15,.t 17]) .write 2,nK 13 (.move (.t 18)) .read 3,nK 19 (.extract (.t 13) 0) .read 3,nK 4 (.alloc 29 6 (.agg [.int .i64 0,.nsl,.nsl,.nsl,.nsl,.nsl])) .create 0,⟨none,.store 6 (.t 4) (.t 19),none,.write,4,false⟩,nK 20 (.extract (.t 13) 1) .read 3,nK 5 (.move (.t 20)) .read 5])
 (oQ [oL 22 6 4,oL 23 2 2,oW 24 (.call (oF 50) [.t 22,.t 23,.c .nsl]),oM 21 24,oX 25 21 0,oX 26 21 1,oS 6 4 25,oM 6 26]
 (oQ [oL 28 6 4,oL 29 2 1,oL 30 2 3,oW 31 (.build [.int .i64 0,.int .i64 0,.int .i64 0,.int .i64 0,.int .i64 0,.nsl,.nsl] [(0,1,oI 3),(1,2,.t 29),(3,2,.t 30)]),oW 32 (.call (oF 52) [.t 28,oI 2,.t 31]),oM 27 32,oX 33 27 0,oX 34 27 1,oS 6 4 33,oM 7 34]
 (oQ [oL 36 6 4,oL 37 2 2,oW 38 (.call (oF 51) [.t 36,.t 37]),oM 35 38,oX 39 35 0,oX 40 35 1,oW 8 (.alloc 29 6 (.agg [.int .i64 0,.nsl,.nsl,.nsl,.nsl,.nsl])),oS 6 8 39,oM 9 40]
 (.seq (.draw [oRM 41 6,oR 42 (.len 1 (.t 41)),oR 43 (.arith .eql (.t 42) (oI 1)),oRM 44 43,rM 45 6 44 true,rW 46 (.indexAddr 8 (.t 45) (oI 0)) 44 true,rA 47 0 46 44 true,rD 48 47 44 true,rW 49 (.arith .eql (.t 48) (oI 1)) 44 true,oR 50 (.pick (.t 44) (.t 49) (oB false)),oRM 51 50,rM 52 7 51 true,rW 53 (.len 1 (.t 52)) 51 true,rW 54 (.arith .eql (.t 53) (oI 0)) 51 true,oR 55 (.pick (.t 51) (.t 54) (oB false)),oRM 56 55,rM 57 9 56 true,rW 58 (.len 1 (.t 57)) 56 true,rW 59 (.arith .eql (.t 58) (oI 2)) 56 true,oR 60 (.pick (.t 56) (.t 59) (oB false)),oRM 61 60,rM 62 9 61 true,rW 63 (.indexAddr 8 (.t 62) (oI 0)) 61 true,rA 64 1 63 61 true,rA 65 0 64 61 true,rD 66 65 61 true,rW 67 (.arith .eql (.t 66) (oI 3)) 61 true,oR 68 (.pick (.t 61) (.t 67) (oB false)),oRM 69 68,rM 70 9 69 true,rW 71 (.indexAddr 8 (.t 70) (oI 0)) 69 true,rA 72 1 71 69 true,rA 73 3 72 69 true,rL 74 2 73 69 true,rL 75 2 3 69 true,rW 76 (.eqa false [1,1] (.t 74) (.t 75)) 69 true,oR 77 (.pick (.t 69) (.t 76) (oB false)),oRM 78 77,rM 79 9 78 true,rW 80 (.indexAddr 8 (.t 79) (oI 1)) 78 true,rA 81 1 80 78 true,rA 82 0 81 78 true,rD 83 82 78 true,rW 84 (.arith .eql (.t 83) (oI 4)) 78 true,oR 85 (.pick (.t 78) (.t 84) (oB false)),oRM 86 85,rM 87 9 86 true,rW 88 (.indexAddr 8 (.t 87) (oI 1)) 86 true,rA 89 1 88 86 true,rA 90 3 89 86 true,rL 91 2 90 86 true,rL 92 2 2 86 true,rW 93 (.eqa false [1,1] (.t 91) (.t 92)) 86 true,oR 94 (.pick (.t 86) (.t 93) (oB false)),oRM 0 94])
 .ret)))))))}
theorem c55:compFunc Tryz.prog Tryz.f55 .pure=some t55:=by kernel_rfl
def t56:DFunc:={ntmps:=9,results:=[.t 4],mode:=.pure,body :=
 (oQ [oW 2 (.box 37 2 (.t 0)),oW 3 (.box 37 2 (.t 1)),oW 4 (.move (oB false))]
 (oQ [oL 5 2 2,oL 6 2 3,oW 7 (.call (oF 101) [.t 5,.t 6]),oW 8 (.arith .lss (.t 7) (oI 0)),oM 4 8]
 .ret))}
theorem c56:compFunc Tryz.prog Tryz.f56 .pure=some t56:=by kernel_rfl
def t65:DFunc:={ntmps:=11,results:=[],mode:=.full,body :=
 (oQ [oM 3 0,oW 4 (.len 1 (.t 3)),oM 2 4]
 (.region [oM 5 0,oM 6 2,oM 7 2,oW 8 (.conv .u64 (.t 7)),oW 9 (.call (oF 135) [.t 8]),oW 10 (.call (oF 134) [.t 5,oI 0,.t 6,.t 9])]))}
theorem c65:compFunc Tryz.prog Tryz.f65 .full=some t65:=by kernel_rfl
def t66l0:DCode :=
 (.seq (oQ [oM 29 5,oM 30 4,oW 31 (.len 1 (.t 30)),oW 32 (.arith .lss (.t 29) (.t 31))]
 (.cond (.t 32) .skip (.exit 2)))
 (.seq (.block 3 (.seq (.draw [oRM 35 4,oRM 36 5,oR 37 (.indexAddr 1 (.t 35) (.t 36)),oRD 38 37,oRM 39 4,oRM 40 5,oR 41 (.arith .sub (.t 40) (oI 1)),oR 42 (.indexAddr 1 (.t 39) (.t 41)),oRD 43 42,oR 44 (.arith .neq (.t 38) (.t 43))])
 (.cond (.t 44) (oQ [oM 45 0,oM 46 3,oM 47 4,oM 48 5,oW 49 (.indexAddr 1 (.t 47) (.t 48)),oD 50 49,oW 51 (.indexAddr 1 (.t 45) (.t 46)),oS 1 51 50]
 (.region [oM 52 3,oW 53 (.arith .add (.t 52) (oI 1)),oM 3 53])) .skip)))
 (.region [oM 33 5,oW 34 (.arith .add (.t 33) (oI 1)),oM 5 34])))
def t66k0:DCode :=
 (oQ [oM 54 0,oM 55 3,oW 56 (.sliceSl 1 (.t 54) (some (.t 55)) none),oZ (.clear 1 (.int .i64 0) (.t 56))]
 (oQ [oM 57 0,oM 58 3,oW 59 (.sliceSl 1 (.t 57) none (some (.t 58))),oM 2 59]
 .ret))
def t66k1:DCode :=
 (.region [oM 14 3,oW 15 (.arith .add (.t 14) (oI 1)),oM 3 15])
def t66l1:DCode :=
 (.seq (oQ [oM 10 3,oM 11 0,oW 12 (.len 1 (.t 11)),oW 13 (.arith .lss (.t 10) (.t 12))]
 (.cond (.t 13) .skip (.exit 0)))
 (.seq (.block 1 (.seq (.draw [oRM 16 0,oRM 17 3,oR 18 (.indexAddr 1 (.t 16) (.t 17)),oRD 19 18,oRM 20 0,oRM 21 3,oR 22 (.arith .sub (.t 21) (oI 1)),oR 23 (.indexAddr 1 (.t 20) (.t 22)),oRD 24 23,oR 25 (.arith .eql (.t 19) (.t 24))])
 (.cond (.t 25) (oQ [oM 26 0,oM 27 3,oW 28 (.sliceSl 1 (.t 26) (some (.t 27)) none),oM 4 28]
 (.seq (oQ [oW 5 (.move (oI 1))]
 (.block 2 (.loop t66l0)))
 t66k0)) .skip)))
 t66k1))
def t66k2:DCode :=
 (oQ [oM 60 0,oM 2 60]
 .ret)
def t66:DFunc:={ntmps:=61,results:=[.t 2],mode:=.full,body :=
 (oQ [oW 2 (.move (.c .nsl))]
 (.seq (oQ [oM 6 0,oW 7 (.len 1 (.t 6)),oW 8 (.arith .lss (.t 7) (oI 2))]
 (.cond (.t 8) (oQ [oM 9 0,oM 2 9]
 .ret) .skip))
 (.seq (oQ [oW 3 (.move (oI 1))]
 (.block 0 (.loop t66l1)))
 t66k2)))}
theorem c66:compFunc Tryz.prog Tryz.f66 .full=some t66:=by kernel_rfl
def t67:DFunc:={ntmps:=2,results:=[.t 0],mode:=.pure,body :=
 (oQ [oW 0 (.move (.c .nsl))]
 (oQ [oW 1 (.buildSlice 9 1 (.str []) 7 [(0,(.c (.str [97]))),(1,(.c (.str [98]))),(2,(.c (.str [99]))),(3,(.c (.str [100]))),(4,(.c (.str [101]))),(5,(.c (.str [102]))),(6,(.c (.str [103])))]),oM 0 1]
 .ret))}
theorem c67:compFunc Tryz.prog Tryz.f67 .pure=some t67:=by kernel_rfl
def t68:DFunc:={ntmps:=44,results:=[(.cell 4 (some 5))],mode:=.pure,body :=
 (oQ [oW 4 (.alloc 62 5 (.agg [.str [],.int .i64 0,.int .i64 0,.int .i64 0,.str []]))]
 (oQ [oM 6 0,oW 7 (.build [.str [],.int .i64 0,.int .i64 0,.int .i64 0,.str []] [(0,1,.t 6)]),oW 5 (.alloc 62 5 (.agg [.str [],.int .i64 0,.int .i64 0,.int .i64 0,.str []])),oS 5 5 7]
 (.seq (oQ [oM 8 1,oW 9 (.call (oF 16) [.t 8,oI 0,oI 3])]
 (.block 0 (.seq (oQ [oW 19 (.arith .eql (.t 9) (oI 0)),oM 18 19]
 (.cond (.t 18) .skip (.region [oW 20 (.arith .eql (.t 9) (oI 1)),oM 18 20])))
 (.cond (.t 18) (oQ [oM 21 1,oW 22 (.arith .quo (.t 21) (oI 4)),oW 23 (.call (oF 16) [.t 22,oI 0,oI 9]),oA 24 1 5,oZ (.store 1 (.t 24) (oI 1)),oA 25 2 5,oS 1 25 23]
 (.draw [oRA 26 2 5,oRD 27 26,oRM 28 1,oR 29 (.arith .quo (.t 28) (oI 40)),nK 30 (.call (oF 16) [.t 29,oI 0,oI 9]) .create 0,nK 31 (.arith .add (.t 27) (.t 30)) .read 1,nK 32 (.fieldAddr 3 (.t 5)) .read 1,⟨none,.store 1 (.t 32) (.t 31),none,.write,1,false⟩])) (oQ [oW 34 (.arith .eql (.t 9) (oI 2)),oM 33 34]
 (.cond (.t 33) (.draw [oW 35 (.call (oF 136) []),oRM 36 1,oR 37 (.arith .quo (.t 36) (oI 4)),nK 38 (.call (oF 16) [.t 37,oI 0,oI 6]) .write 1,nK 39 (.indexAddr 1 (.t 35) (.t 38)) .read 2,nK 40 (.load none (.t 39)) .read 2,oRA 41 1 5,⟨none,.store 1 (.t 41) (oI 2),none,.create,2,false⟩,nK 42 (.fieldAddr 4 (.t 5)) .read 3,⟨none,.store 1 (.t 42) (.t 40),none,.write,3,false⟩]) (.draw [oW 10 (.call (oF 136) []),oRM 11 1,oR 12 (.arith .quo (.t 11) (oI 4)),nK 13 (.call (oF 16) [.t 12,oI 0,oI 6]) .write 1,nK 14 (.indexAddr 1 (.t 10) (.t 13)) .read 2,nK 15 (.load none (.t 14)) .read 2,oRA 16 1 5,⟨none,.store 1 (.t 16) (oI 3),none,.create,2,false⟩,nK 17 (.fieldAddr 4 (.t 5)) .read 3,⟨none,.store 1 (.t 17) (.t 15),none,.write,3,false⟩])))))))
 (oQ [oL 43 5 5,oS 5 4 43]
 .ret))))}
theorem c68:compFunc Tryz.prog Tryz.f68 .pure=some t68:=by kernel_rfl
def t69:DFunc:={ntmps:=15,results:=[.t 4],mode:=.pure,body :=
 (oQ [oW 4 (.move (oI 0))]
 (.seq (oQ [oM 5 0,oW 6 (.len 1 (.t 5)),oW 7 (.arith .eql (.t 6) (oI 0))]
 (.cond (.t 7) (oQ [oW 4 (.move (oI 0))]
 .ret) .skip))
 (oQ [oM 8 0,oM 9 1,oM 10 0,oW 11 (.len 1 (.t 10)),oW 12 (.arith .rem (.t 9) (.t 11)),oW 13 (.indexAddr 1 (.t 8) (.t 12)),oD 14 13,oM 4 14]
 .ret)))}
theorem c69:compFunc Tryz.prog Tryz.f69 .pure=some t69:=by kernel_rfl
def t70:DFunc:={ntmps:=24,results:=[(.cell 2 (some 6))],mode:=.full,body :=
 (oQ [oW 1 (.box 29 6 (.t 0)),oW 2 (.alloc 29 6 (.agg [.int .i64 0,.nsl,.nsl,.nsl,.nsl,.nsl]))]
 (.seq (.draw [oRA 3 1 1,oRD 4 3,nK 5 (.call (oF 64) [.t 4]) .create 0,oRA 6 2 1,oRD 7 6,nK 8 (.call (oF 137) [.t 7]) .create 0,oRA 9 3 1,oRD 10 9,nK 11 (.call (oF 138) [.t 10]) .create 0,oRA 12 4 1,oRD 13 12,nK 14 (.call (oF 112) [.t 13]) .create 0,oRA 15 5 1,oRD 16 15,nK 17 (.call (oF 126) [.t 16]) .write 4,nK 18 (.fieldAddr 1 (.t 1)) .read 1,⟨none,.store 1 (.t 18) (.t 5),none,.write,5,false⟩,nK 19 (.fieldAddr 2 (.t 1)) .read 6,⟨none,.store 1 (.t 19) (.t 8),none,.write,6,false⟩,nK 20 (.fieldAddr 3 (.t 1)) .read 7,⟨none,.store 1 (.t 20) (.t 11),none,.write,7,false⟩,nK 21 (.fieldAddr 4 (.t 1)) .read 8,⟨none,.store 1 (.t 21) (.t 14),none,.write,8,false⟩,nK 22 (.fieldAddr 5 (.t 1)) .read 9,⟨none,.store 1 (.t 22) (.t 17),none,.write,9,false⟩])
 (oQ [oL 23 6 1,oS 6 2 23]
 .ret)))}
theorem c70:compFunc Tryz.prog Tryz.f70 .full=some t70:=by kernel_rfl
def t71:DFunc:={ntmps:=12,results:=[.t 4,.t 5],mode:=.pure,body :=
 (oQ [oW 2 (.box 29 6 (.t 0)),oW 3 (.box 37 2 (.t 1)),oW 4 (.move (oI 0)),oW 5 (.move (oB false))]
 (oQ [oA 6 3 2,oD 7 6,oL 8 2 3,oW 9 (.call (oF 139) [.t 7,.t 8,oF 101]),oX 10 9 0,oX 11 9 1,oM 4 10,oM 5 11]
 .ret))}
theorem c71:compFunc Tryz.prog Tryz.f71 .pure=some t71:=by kernel_rfl
def t72:DFunc:={ntmps:=12,results:=[.t 4,.t 5],mode:=.pure,body :=
 (oQ [oW 2 (.box 29 6 (.t 0)),oW 3 (.box 37 2 (.t 1)),oW 4 (.move (oI 0)),oW 5 (.move (oB false))]
 (oQ [oA 6 2 2,oD 7 6,oL 8 2 3,oW 9 (.call (oF 140) [.t 7,.t 8,oF 141]),oX 10 9 0,oX 11 9 1,oM 4 10,oM 5 11]
 .ret))}
theorem c72:compFunc Tryz.prog Tryz.f72 .pure=some t72:=by kernel_rfl
def t73:DFunc:={ntmps:=95,results:=[.t 6],mode:=.split,body :=
 (oQ [oW 6 (.move (.c .nsl))]
 (oQ [oM 10 0,oM 11 1,oW 12 (.sliceSl 4 (.t 10) (some (.t 11)) none)]
 (oQ [oM 13 2,oW 14 (.len 1 (.t 13)),oM 7 14]
 (.seq (oQ [oM 15 7,oW 16 (.arith .eql (.t 15) (oI 0))]
 (.cond (.t 16) (oQ [oM 17 0,oM 6 17]
 .ret) .skip))
 (oQ [oM 18 0,oW 19 (.len 1 (.t 18)),oM 8 19]
 (.seq (oQ [oM 20 1,oM 21 8,oW 22 (.arith .eql (.t 20) (.t 21))]
 (.cond (.t 22) (oQ [oM 23 0,oM 24 2,oW 25 (.append 42 4 48 (.t 23) (.t 24)),oM 6 25]
 .ret) .skip))
 (.seq (oQ [oM 26 8,oM 27 7,oW 28 (.arith .add (.t 26) (.t 27)),oM 29 0,oW 30 (.cap (.t 29)),oW 31 (.arith .gtr (.t 28) (.t 30))]
 (.cond (.t 31) (oQ [oM 32 0,oM 33 1,oW 34 (.sliceSl 4 (.t 32) none (some (.t 33))),oM 35 8,oM 36 7,oW 37 (.arith .add (.t 35) (.t 36)),oM 38 1,oW 39 (.arith .sub (.t 37) (.t 38)),oW 40 (.appendZ 42 4 48 (.agg [.int .i64 0,.int .i64 0,.nsl,.int .i64 0]) (.t 34) (.t 39)),oM 9 40]
 (oQ [oM 41 9,oM 42 1,oW 43 (.sliceSl 4 (.t 41) (some (.t 42)) none),oM 44 2,oW 45 (.copy 4 (.t 43) (.t 44))]
 (.seq (.draw [oRM 46 9,oRM 47 1,oRM 48 7,oR 49 (.arith .add (.t 47) (.t 48)),oR 50 (.sliceSl 4 (.t 46) (some (.t 49)) none),oRM 51 0,oRM 52 1,oR 53 (.sliceSl 4 (.t 51) (some (.t 52)) none),oW 54 (.copy 4 (.t 50) (.t 53))])
 (oQ [oM 55 9,oM 6 55]
 .ret)))) .skip))
 (oQ [oM 56 0,oM 57 8,oM 58 7,oW 59 (.arith .add (.t 57) (.t 58)),oW 60 (.sliceSl 4 (.t 56) none (some (.t 59))),oM 0 60]
 (.seq (oQ [oM 61 2,oM 62 0,oM 63 1,oM 64 7,oW 65 (.arith .add (.t 63) (.t 64)),oW 66 (.sliceSl 4 (.t 62) (some (.t 65)) none),oW 67 (.call (oF 142) [.t 61,.t 66]),oW 68 (.un .not (.t 67))]
 (.cond (.t 68) (.seq (.draw [oRM 69 0,oRM 70 1,oRM 71 7,oR 72 (.arith .add (.t 70) (.t 71)),oR 73 (.sliceSl 4 (.t 69) (some (.t 72)) none),oRM 74 0,oRM 75 1,oR 76 (.sliceSl 4 (.t 74) (some (.t 75)) none),oW 77 (.copy 4 (.t 73) (.t 76))])
 (oQ [oM 78 0,oM 79 1,oW 80 (.sliceSl 4 (.t 78) (some (.t 79)) none),oM 81 2,oW 82 (.copy 4 (.t 80) (.t 81))]
 (oQ [oM 83 0,oM 6 83]
 .ret))) .skip))
 (oQ [oM 84 0,oM 85 8,oW 86 (.sliceSl 4 (.t 84) (some (.t 85)) none),oM 87 2,oW 88 (.copy 4 (.t 86) (.t 87))]
 (oQ [oM 89 0,oM 90 1,oW 91 (.sliceSl 4 (.t 89) (some (.t 90)) none),oM 92 7,oW 93 (.call (oF 143) [.t 91,.t 92])]
 (oQ [oM 94 0,oM 6 94]
 .ret))))))))))))}
theorem c73:compFunc Tryz.prog Tryz.f73 .split=some t73:=by kernel_rfl
def t74:DFunc:={ntmps:=95,results:=[.t 6],mode:=.split,body :=
 (oQ [oW 6 (.move (.c .nsl))]
 (oQ [oM 10 0,oM 11 1,oW 12 (.sliceSl 2 (.t 10) (some (.t 11)) none)]
 (oQ [oM 13 2,oW 14 (.len 1 (.t 13)),oM 7 14]
 (.seq (oQ [oM 15 7,oW 16 (.arith .eql (.t 15) (oI 0))]
 (.cond (.t 16) (oQ [oM 17 0,oM 6 17]
 .ret) .skip))
 (oQ [oM 18 0,oW 19 (.len 1 (.t 18)),oM 8 19]
 (.seq (oQ [oM 20 1,oM 21 8,oW 22 (.arith .eql (.t 20) (.t 21))]
 (.cond (.t 22) (oQ [oM 23 0,oM 24 2,oW 25 (.append 37 2 16 (.t 23) (.t 24)),oM 6 25]
 .ret) .skip))
 (.seq (oQ [oM 26 8,oM 27 7,oW 28 (.arith .add (.t 26) (.t 27)),oM 29 0,oW 30 (.cap (.t 29)),oW 31 (.arith .gtr (.t 28) (.t 30))]
 (.cond (.t 31) (oQ [oM 32 0,oM 33 1,oW 34 (.sliceSl 2 (.t 32) none (some (.t 33))),oM 35 8,oM 36 7,oW 37 (.arith .add (.t 35) (.t 36)),oM 38 1,oW 39 (.arith .sub (.t 37) (.t 38)),oW 40 (.appendZ 37 2 16 (.agg [.int .i64 0,.int .i64 0]) (.t 34) (.t 39)),oM 9 40]
 (oQ [oM 41 9,oM 42 1,oW 43 (.sliceSl 2 (.t 41) (some (.t 42)) none),oM 44 2,oW 45 (.copy 2 (.t 43) (.t 44))]
 (.seq (.draw [oRM 46 9,oRM 47 1,oRM 48 7,oR 49 (.arith .add (.t 47) (.t 48)),oR 50 (.sliceSl 2 (.t 46) (some (.t 49)) none),oRM 51 0,oRM 52 1,oR 53 (.sliceSl 2 (.t 51) (some (.t 52)) none),oW 54 (.copy 2 (.t 50) (.t 53))])
 (oQ [oM 55 9,oM 6 55]
 .ret)))) .skip))
 (oQ [oM 56 0,oM 57 8,oM 58 7,oW 59 (.arith .add (.t 57) (.t 58)),oW 60 (.sliceSl 2 (.t 56) none (some (.t 59))),oM 0 60]
 (.seq (oQ [oM 61 2,oM 62 0,oM 63 1,oM 64 7,oW 65 (.arith .add (.t 63) (.t 64)),oW 66 (.sliceSl 2 (.t 62) (some (.t 65)) none),oW 67 (.call (oF 144) [.t 61,.t 66]),oW 68 (.un .not (.t 67))]
 (.cond (.t 68) (.seq (.draw [oRM 69 0,oRM 70 1,oRM 71 7,oR 72 (.arith .add (.t 70) (.t 71)),oR 73 (.sliceSl 2 (.t 69) (some (.t 72)) none),oRM 74 0,oRM 75 1,oR 76 (.sliceSl 2 (.t 74) (some (.t 75)) none),oW 77 (.copy 2 (.t 73) (.t 76))])
 (oQ [oM 78 0,oM 79 1,oW 80 (.sliceSl 2 (.t 78) (some (.t 79)) none),oM 81 2,oW 82 (.copy 2 (.t 80) (.t 81))]
 (oQ [oM 83 0,oM 6 83]
 .ret))) .skip))
 (oQ [oM 84 0,oM 85 8,oW 86 (.sliceSl 2 (.t 84) (some (.t 85)) none),oM 87 2,oW 88 (.copy 2 (.t 86) (.t 87))]
 (oQ [oM 89 0,oM 90 1,oW 91 (.sliceSl 2 (.t 89) (some (.t 90)) none),oM 92 7,oW 93 (.call (oF 145) [.t 91,.t 92])]
 (oQ [oM 94 0,oM 6 94]
 .ret))))))))))))}
theorem c74:compFunc Tryz.prog Tryz.f74 .split=some t74:=by kernel_rfl
def t100l0:DCode :=
 (oQ [oW 9 (.arith .lss (.t 8) (.t 7))]
 (.seq (.cond (.t 9) .skip (.exit 0))
 (.seq (.block 1 (oQ [oW 10 (.indexAddr 1 (.t 6) (.t 8)),oD 11 10,oM 5 11]
 (oQ [oM 12 5,oM 13 3,oW 14 (.arith .neq (.t 12) (.t 13))]
 (.cond (.t 14) (oQ [oM 15 5,oM 2 15]
 .ret) .skip))))
 (.region [oW 16 (.arith .add (.t 8) (oI 1)),oM 8 16]))))
def t100k0:DCode :=
 (oQ [oM 17 3,oM 2 17]
 .ret)
def t100:DFunc:={ntmps:=18,results:=[.t 2],mode:=.pure,body :=
 (oQ [oW 2 (.move (oI 0))]
 (oQ [oW 3 (.move (oI 0))]
 (.seq (oQ [oM 6 0,oW 7 (.len 1 (.t 6)),oW 8 (.move (oI 0))]
 (.block 0 (.loop t100l0)))
 t100k0)))}
theorem c100:compFunc Tryz.prog Tryz.f100 .pure=some t100:=by kernel_rfl
def t101:DFunc:={ntmps:=17,results:=[.t 4],mode:=.pure,body :=
 (oQ [oW 2 (.box 37 2 (.t 0)),oW 3 (.box 37 2 (.t 1)),oW 4 (.move (oI 0))]
 (.seq (.draw [oRA 5 0 2,oRD 6 5,oRA 7 0 3,oRD 8 7,nK 9 (.call (oF 148) [.t 6,.t 8]) .create 0,oRA 10 1 2,oRD 11 10,oRA 12 1 3,oRD 13 12,nK 14 (.call (oF 148) [.t 11,.t 13]) .write 1,nK 15 (.buildSlice 3 1 (.int .i64 0) 2 [(0,.t 9),(1,.t 14)]) .create 0,nK 16 (.call (oF 100) [.t 15]) .write 3,nK 4 (.move (.t 16)) .read 4])
 .ret))}
theorem c101:compFunc Tryz.prog Tryz.f101 .pure=some t101:=by kernel_rfl
def t106:DFunc:={ntmps:=9,results:=[.t 4],mode:=.pure,body :=
 (oQ [oW 4 (.move (oB false))]
 (oQ [oM 5 0,oM 6 1,oW 7 (.call (oF 146) [.t 5,.t 6]),oW 8 (.arith .geq (.t 7) (oI 0)),oM 4 8]
 .ret))}
theorem c106:compFunc Tryz.prog Tryz.f106 .pure=some t106:=by kernel_rfl
def t113:DFunc:={ntmps:=15,results:=[.t 6,.t 7],mode:=.pure,body :=
 (oQ [oW 3 (.box 29 6 (.t 0)),oW 4 (.box 37 2 (.t 1)),oW 5 (.box 37 2 (.t 2)),oW 6 (.move (oI 0)),oW 7 (.move (oB false))]
 (oQ [oA 8 4 3,oD 9 8,oL 10 2 5,oW 11 (.makeFunc 155 [.t 4]),oW 12 (.call (oF 154) [.t 9,.t 10,.t 11]),oX 13 12 0,oX 14 12 1,oM 6 13,oM 7 14]
 .ret))}
theorem c113:compFunc Tryz.prog Tryz.f113 .pure=some t113:=by kernel_rfl
def t114:DFunc:={ntmps:=95,results:=[.t 6],mode:=.split,body :=
 (oQ [oW 6 (.move (.c .nsl))]
 (oQ [oM 10 0,oM 11 1,oW 12 (.sliceSl 7 (.t 10) (some (.t 11)) none)]
 (oQ [oM 13 2,oW 14 (.len 1 (.t 13)),oM 7 14]
 (.seq (oQ [oM 15 7,oW 16 (.arith .eql (.t 15) (oI 0))]
 (.cond (.t 16) (oQ [oM 17 0,oM 6 17]
 .ret) .skip))
 (oQ [oM 18 0,oW 19 (.len 1 (.t 18)),oM 8 19]
 (.seq (oQ [oM 20 1,oM 21 8,oW 22 (.arith .eql (.t 20) (.t 21))]
 (.cond (.t 22) (oQ [oM 23 0,oM 24 2,oW 25 (.append 58 7 72 (.t 23) (.t 24)),oM 6 25]
 .ret) .skip))
 (.seq (oQ [oM 26 8,oM 27 7,oW 28 (.arith .add (.t 26) (.t 27)),oM 29 0,oW 30 (.cap (.t 29)),oW 31 (.arith .gtr (.t 28) (.t 30))]
 (.cond (.t 31) (oQ [oM 32 0,oM 33 1,oW 34 (.sliceSl 7 (.t 32) none (some (.t 33))),oM 35 8,oM 36 7,oW 37 (.arith .add (.t 35) (.t 36)),oM 38 1,oW 39 (.arith .sub (.t 37) (.t 38)),oW 40 (.appendZ 58 7 72 (.agg [.int .i64 0,.int .i64 0,.int .i64 0,.int .i64 0,.nsl,.int .i64 0,.bool false]) (.t 34) (.t 39)),oM 9 40]
 (oQ [oM 41 9,oM 42 1,oW 43 (.sliceSl 7 (.t 41) (some (.t 42)) none),oM 44 2,oW 45 (.copy 7 (.t 43) (.t 44))]
 (.seq (.draw [oRM 46 9,oRM 47 1,oRM 48 7,oR 49 (.arith .add (.t 47) (.t 48)),oR 50 (.sliceSl 7 (.t 46) (some (.t 49)) none),oRM 51 0,oRM 52 1,oR 53 (.sliceSl 7 (.t 51) (some (.t 52)) none),oW 54 (.copy 7 (.t 50) (.t 53))])
 (oQ [oM 55 9,oM 6 55]
 .ret)))) .skip))
 (oQ [oM 56 0,oM 57 8,oM 58 7,oW 59 (.arith .add (.t 57) (.t 58)),oW 60 (.sliceSl 7 (.t 56) none (some (.t 59))),oM 0 60]
 (.seq (oQ [oM 61 2,oM 62 0,oM 63 1,oM 64 7,oW 65 (.arith .add (.t 63) (.t 64)),oW 66 (.sliceSl 7 (.t 62) (some (.t 65)) none),oW 67 (.call (oF 156) [.t 61,.t 66]),oW 68 (.un .not (.t 67))]
 (.cond (.t 68) (.seq (.draw [oRM 69 0,oRM 70 1,oRM 71 7,oR 72 (.arith .add (.t 70) (.t 71)),oR 73 (.sliceSl 7 (.t 69) (some (.t 72)) none),oRM 74 0,oRM 75 1,oR 76 (.sliceSl 7 (.t 74) (some (.t 75)) none),oW 77 (.copy 7 (.t 73) (.t 76))])
 (oQ [oM 78 0,oM 79 1,oW 80 (.sliceSl 7 (.t 78) (some (.t 79)) none),oM 81 2,oW 82 (.copy 7 (.t 80) (.t 81))]
 (oQ [oM 83 0,oM 6 83]
 .ret))) .skip))
 (oQ [oM 84 0,oM 85 8,oW 86 (.sliceSl 7 (.t 84) (some (.t 85)) none),oM 87 2,oW 88 (.copy 7 (.t 86) (.t 87))]
 (oQ [oM 89 0,oM 90 1,oW 91 (.sliceSl 7 (.t 89) (some (.t 90)) none),oM 92 7,oW 93 (.call (oF 157) [.t 91,.t 92])]
 (oQ [oM 94 0,oM 6 94]
 .ret))))))))))))}
theorem c114:compFunc Tryz.prog Tryz.f114 .split=some t114:=by kernel_rfl
def t116:DFunc:={ntmps:=33,results:=[.t 6],mode:=.full,body :=
 (oQ [oW 6 (.move (.c .nsl))]
 (oQ [oM 8 0,oM 9 1,oM 10 2,oM 11 0,oW 12 (.len 1 (.t 11)),oW 13 (.slice3 (.t 8) (.t 9) (.t 10) (.t 12))]
 (.seq (oQ [oM 14 1,oM 15 2,oW 16 (.arith .eql (.t 14) (.t 15))]
 (.cond (.t 16) (oQ [oM 17 0,oM 6 17]
 .ret) .skip))
 (oQ [oM 18 0,oW 19 (.len 1 (.t 18)),oM 7 19]
 (.seq (.draw [oRM 20 0,oRM 21 1,oR 22 (.sliceSl 7 (.t 20) none (some (.t 21))),oRM 23 0,oRM 24 2,oR 25 (.sliceSl 7 (.t 23) (some (.t 24)) none),oW 26 (.append 58 7 72 (.t 22) (.t 25)),nK 0 (.move (.t 26)) .read 1])
 (oQ [oM 27 0,oM 28 0,oW 29 (.len 1 (.t 28)),oM 30 7,oW 31 (.sliceSl 7 (.t 27) (some (.t 29)) (some (.t 30))),oZ (.clear 7 (.agg [.int .i64 0,.int .i64 0,.int .i64 0,.int .i64 0,.nsl,.int .i64 0,.bool false]) (.t 31))]
 (oQ [oM 32 0,oM 6 32]
 .ret)))))))}
theorem c116:compFunc Tryz.prog Tryz.f116 .full=some t116:=by kernel_rfl
def t117:DFunc:={ntmps:=12,results:=[.t 3],mode:=.pure,body :=
 (oQ [oW 2 (.box 58 7 (.t 0)),oW 3 (.move (oB false))]
 (oQ [oA 4 6 2,oD 5 4,oM 6 5,gA 7 4 2 6 true,gD 8 7 6 true,gD 9 1 6 true,gW 10 (.call (oF 54) [.t 8,.t 9]) 6 true,oW 11 (.pick (.t 6) (.t 10) (oB false)),oM 3 11]
 .ret))}
theorem c117:compFunc Tryz.prog Tryz.f117 .pure=some t117:=by kernel_rfl
end Go.Dm.Tc
