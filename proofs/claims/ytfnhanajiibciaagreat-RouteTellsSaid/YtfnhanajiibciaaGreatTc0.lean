/-
The table of functions, brought into the machine's form (Tc, part 0). Written by program (wip/tools/table.lean.txt).
-/
import Derived.Test.YtfnhanajiibciaaGreatMm3
import Derived.Test.YtfnhanajiibciaaGreatRows
import Derived.KernelRfl
namespace Go.Dm.Tc
open Go.Proofs
abbrev oQ (l:List DOper) (c:DCode):DCode:=.seq (.region l) c
abbrev gW (d:Nat) (op:DOp) (g:Nat) (b:Bool):DOper:=⟨some d,op,some (g,b),.write,0,false⟩
abbrev gM (d x g:Nat) (b:Bool):DOper:=⟨some d,.move (.t x),some (g,b),.write,0,false⟩
abbrev gA (d o x g:Nat) (b:Bool):DOper:=⟨some d,.fieldAddr o (.t x),some (g,b),.write,0,false⟩
abbrev gD (d x g:Nat) (b:Bool):DOper:=⟨some d,.load none (.t x),some (g,b),.write,0,false⟩
abbrev gL (d n x g:Nat) (b:Bool):DOper:=⟨some d,.load (some n) (.t x),some (g,b),.write,0,false⟩
abbrev rW (d:Nat) (op:DOp) (g:Nat) (b:Bool):DOper:=⟨some d,op,some (g,b),.read,0,false⟩
abbrev rM (d x g:Nat) (b:Bool):DOper:=⟨some d,.move (.t x),some (g,b),.read,0,false⟩
abbrev rA (d o x g:Nat) (b:Bool):DOper:=⟨some d,.fieldAddr o (.t x),some (g,b),.read,0,false⟩
abbrev rD (d x g:Nat) (b:Bool):DOper:=⟨some d,.load none (.t x),some (g,b),.read,0,false⟩
abbrev rL (d n x g:Nat) (b:Bool):DOper:=⟨some d,.load (some n) (.t x),some (g,b),.read,0,false⟩
abbrev nK (d:Nat) (op:DOp) (k:OKind) (s:Nat):DOper:=⟨some d,op,none,k,s,false⟩
def t14s0:DCode :=
 (oQ [oL 118 6 21,oL 119 6 22,oW 120 (.call (oF 25) [.t 118,.t 119]),oM 121 120,gM 122 23 121 true,gM 123 24 121 true,gW 124 (.call (oF 60) [.t 122,.t 123]) 121 true,oW 125 (.pick (.t 121) (.t 124) (oB false)),oM 126 125,gL 127 6 21 126 true,gW 128 (.call (oF 27) [.t 127]) 126 true,oW 129 (.pick (.t 126) (.t 128) (oB false)),oM 130 129,gL 131 6 21 130 true,gW 132 (.call (oF 41) [.t 131]) 130 true,oW 133 (.pick (.t 130) (.t 132) (oB false)),oM 134 133,gL 135 6 15 134 true,gL 136 6 20 134 true,gW 137 (.call (oF 25) [.t 135,.t 136]) 134 true,oW 138 (.pick (.t 134) (.t 137) (oB false)),oM 139 138,gW 140 (.call (oF 55) []) 139 true,oW 141 (.pick (.t 139) (.t 140) (oB false)),oM 14 141]
 .ret)
def t14:DFunc:={ntmps:=142,results:=[.t 14],mode:=.pure,body :=
 (oQ [oW 7 (.box 55 2 (.t 0)),oW 13 (.box 32 2 (.t 6)),oW 14 (.move (oB false))]
 (oQ [oL 25 2 7,oW 26 (.call (oF 29) [.t 25]),oW 15 (.alloc 29 6 (.agg [.int .i64 0,.nsl,.nsl,.nsl,.nsl,.nsl])),oS 6 15 26]
 (oQ [oM 27 3,oW 28 (.call (oF 16) [.t 27,oI 0,oI 2]),oW 29 (.build [.int .i64 0,.int .i64 0] [(0,1,.t 28)]),oW 16 (.alloc 37 2 (.agg [.int .i64 0,.int .i64 0])),oS 2 16 29]
 (oQ [oM 30 4,oW 31 (.call (oF 16) [.t 30,oI 0,oI 4]),oM 32 5,oW 33 (.call (oF 16) [.t 32,oI 0,oI 2]),oW 34 (.build [.int .i64 0,.int .i64 0] [(0,1,.t 31),(1,1,.t 33)]),oW 17 (.alloc 37 2 (.agg [.int .i64 0,.int .i64 0])),oS 2 17 34]
 (.seq (.draw [oRA 35 1 15,oRD 36 35,oRA 38 1 15,oRD 39 38,oRM 37 2,oR 40 (.len 1 (.t 39)),oR 41 (.arith .sub (.t 40) (oI 1)),nK 42 (.call (oF 16) [.t 37,oI 0,.t 41]) .create 0,nK 43 (.indexAddr 1 (.t 36) (.t 42)) .read 1,nK 44 (.load none (.t 43)) .read 1,nK 18 (.move (.t 44)) .read 1])
 (.seq (.draw [oRL 45 2 16,oRL 46 2 17,oRL 47 2 13,nK 48 (.call (oF 18) [.t 47]) .create 0,nK 49 (.build [.int .i64 0,.int .i64 0,.int .i64 0,.int .i64 0,.int .i64 0,.nsl,.nsl] [(0,1,oI 3),(1,2,.t 45),(3,2,.t 46),(5,1,.t 48)]) .read 1,nK 19 (.alloc 84 7 (.agg [.int .i64 0,.int .i64 0,.int .i64 0,.int .i64 0,.int .i64 0,.nsl,.nsl])) .create 0,⟨none,.store 7 (.t 19) (.t 49),none,.write,2,false⟩])
 (oQ [oL 50 6 15,oW 51 (.call (oF 17) [.t 50]),oW 20 (.alloc 29 6 (.agg [.int .i64 0,.nsl,.nsl,.nsl,.nsl,.nsl])),oS 6 20 51]
 (oQ [oW 21 (.alloc 29 6 (.agg [.int .i64 0,.nsl,.nsl,.nsl,.nsl,.nsl])),oW 22 (.alloc 29 6 (.agg [.int .i64 0,.nsl,.nsl,.nsl,.nsl,.nsl]))]
 (oQ [oW 23 (.move (.c .nsl)),oW 24 (.move (.c .nsl))]
 (.seq (oQ [oM 52 1,oW 53 (.call (oF 16) [.t 52,oI 0,oI 3])]
 (.block 0 (oQ [oW 71 (.arith .eql (.t 53) (oI 0)),oM 70 71]
 (.cond (.t 70) (oQ [oL 73 6 15,oL 74 2 17,oA 75 5 19,oD 76 75,oW 77 (.call (oF 50) [.t 73,.t 74,.t 76]),oM 72 77,oX 78 72 0,oX 79 72 1,oS 6 21 78,oM 23 79]
 (.region [oL 81 6 15,oL 82 2 17,oA 83 5 19,oD 84 83,oW 85 (.call (oF 46) [.t 81,.t 82,.t 84]),oM 80 85,oX 86 80 0,oX 87 80 1,oS 6 22 86,oM 24 87])) (oQ [oW 89 (.arith .eql (.t 53) (oI 1)),oM 88 89]
 (.cond (.t 88) (oQ [oL 91 6 15,oL 92 2 17,oW 93 (.call (oF 51) [.t 91,.t 92]),oM 90 93,oX 94 90 0,oX 95 90 1,oS 6 21 94,oM 23 95]
 (.region [oL 97 6 15,oL 98 2 17,oW 99 (.call (oF 61) [.t 97,.t 98]),oM 96 99,oX 100 96 0,oX 101 96 1,oS 6 22 100,oM 24 101])) (oQ [oW 103 (.arith .eql (.t 53) (oI 2)),oM 102 103]
 (.cond (.t 102) (oQ [oL 105 6 15,oM 106 18,oL 107 7 19,oW 108 (.call (oF 52) [.t 105,.t 106,.t 107]),oM 104 108,oX 109 104 0,oX 110 104 1,oS 6 21 109,oM 23 110]
 (.region [oL 112 6 15,oM 113 18,oL 114 7 19,oW 115 (.call (oF 62) [.t 112,.t 113,.t 114]),oM 111 115,oX 116 111 0,oX 117 111 1,oS 6 22 116,oM 24 117])) (oQ [oA 54 0 19,oZ (.store 1 (.t 54) (oI 4)),oA 55 5 19,oZ (.store 1 (.t 55) (.c .nsl))]
 (oQ [oL 57 6 15,oM 58 18,oL 59 7 19,oW 60 (.call (oF 53) [.t 57,.t 58,.t 59]),oM 56 60,oX 61 56 0,oX 62 56 1,oS 6 21 61,oM 23 62]
 (.region [oL 64 6 15,oM 65 18,oL 66 7 19,oW 67 (.call (oF 63) [.t 64,.t 65,.t 66]),oM 63 67,oX 68 63 0,oX 69 63 1,oS 6 22 68,oM 24 69])))))))))))
 t14s0))))))))))}
theorem c14:compFunc Tryz.prog Tryz.f14 .pure=some t14:=by kernel_rfl
def t15:DFunc:={ntmps:=14,results:=[(.cell 4 (some 6))],mode:=.pure,body :=
 (oQ [oW 4 (.alloc 29 6 (.agg [.int .i64 0,.nsl,.nsl,.nsl,.nsl,.nsl]))]
 (oQ [oM 6 1,oW 7 (.call (oF 64) [.t 6]),oM 5 7]
 (oQ [oM 8 5,oW 9 (.call (oF 65) [.t 8])]
 (oQ [oM 10 0,oM 11 5,oW 12 (.call (oF 66) [.t 11]),oW 13 (.build [.int .i64 0,.nsl,.nsl,.nsl,.nsl,.nsl] [(0,1,.t 10),(1,1,.t 12)]),oS 6 4 13]
 .ret))))}
theorem c15:compFunc Tryz.prog Tryz.f15 .pure=some t15:=by kernel_rfl
def t16:DFunc:={ntmps:=24,results:=[.t 6],mode:=.pure,body :=
 (oQ [oW 6 (.move (oI 0))]
 (oQ [oM 7 0,oM 8 2,oM 9 1,oW 10 (.arith .sub (.t 8) (.t 9)),oW 11 (.arith .add (.t 10) (oI 1)),oW 12 (.arith .rem (.t 7) (.t 11)),oM 0 12]
 (.seq (oQ [oM 13 0,oW 14 (.arith .lss (.t 13) (oI 0))]
 (.cond (.t 14) (.region [oM 15 0,oM 16 2,oW 17 (.arith .add (.t 15) (.t 16)),oM 18 1,oW 19 (.arith .sub (.t 17) (.t 18)),oW 20 (.arith .add (.t 19) (oI 1)),oM 0 20]) .skip))
 (oQ [oM 21 1,oM 22 0,oW 23 (.arith .add (.t 21) (.t 22)),oM 6 23]
 .ret))))}
theorem c16:compFunc Tryz.prog Tryz.f16 .pure=some t16:=by kernel_rfl
def t17:DFunc:={ntmps:=29,results:=[(.cell 2 (some 6))],mode:=.pure,body :=
 (oQ [oW 1 (.box 29 6 (.t 0)),oW 2 (.alloc 29 6 (.agg [.int .i64 0,.nsl,.nsl,.nsl,.nsl,.nsl]))]
 (oQ [oW 3 (.buildSlice 3 1 (.int .i64 0) 0 []),oA 4 1 1,oD 5 4,oW 6 (.append 3 1 8 (.t 3) (.t 5)),oA 7 1 1,oS 1 7 6]
 (oQ [oW 8 (.buildSlice 42 4 (.agg [.int .i64 0,.int .i64 0,.nsl,.int .i64 0]) 0 []),oA 9 2 1,oD 10 9,oW 11 (.append 42 4 48 (.t 8) (.t 10)),oA 12 2 1,oS 1 12 11]
 (oQ [oW 13 (.buildSlice 37 2 (.agg [.int .i64 0,.int .i64 0]) 0 []),oA 14 3 1,oD 15 14,oW 16 (.append 37 2 16 (.t 13) (.t 15)),oA 17 3 1,oS 1 17 16]
 (oQ [oW 18 (.buildSlice 58 7 (.agg [.int .i64 0,.int .i64 0,.int .i64 0,.int .i64 0,.nsl,.int .i64 0,.bool false]) 0 []),oA 19 4 1,oD 20 19,oW 21 (.append 58 7 72 (.t 18) (.t 20)),oA 22 4 1,oS 1 22 21]
 (oQ [oW 23 (.buildSlice 60 3 (.agg [.int .i64 0,.int .i64 0,.nsl]) 0 []),oA 24 5 1,oD 25 24,oW 26 (.append 60 3 40 (.t 23) (.t 25)),oA 27 5 1,oS 1 27 26]
 (oQ [oL 28 6 1,oS 6 2 28]
 .ret)))))))}
theorem c17:compFunc Tryz.prog Tryz.f17 .pure=some t17:=by kernel_rfl
def t18l0:DCode :=
 (oQ [oW 9 (.arith .lss (.t 8) (.t 7))]
 (.seq (.cond (.t 9) .skip (.exit 0))
 (.seq (.block 1 (oQ [oM 10 8,oW 11 (.indexAddr 1 (.t 6) (.t 8)),oD 12 11,oM 4 10,oM 5 12]
 (oQ [oM 13 4,oA 14 0 1,oD 15 14,oW 16 (.len 1 (.t 15)),oW 17 (.arith .lss (.t 13) (.t 16)),oM 18 17,gA 19 0 1 18 true,gD 20 19 18 true,gM 21 4 18 true,gW 22 (.indexAddr 1 (.t 20) (.t 21)) 18 true,gD 23 22 18 true,gW 24 (.arith .and (.t 23) (oI 1)) 18 true,gW 25 (.arith .eql (.t 24) (oI 1)) 18 true,oW 26 (.pick (.t 18) (.t 25) (oB false)),oM 27 26,gM 28 3 27 true,gW 29 (.len 1 (.t 28)) 27 true,gW 30 (.arith .lss (.t 29) (oI 5)) 27 true,oW 31 (.pick (.t 27) (.t 30) (oB false))]
 (.cond (.t 31) (.region [oM 32 3,oM 33 5,oA 34 1 1,oD 35 34,oM 36 4,oW 37 (.call (oF 69) [.t 35,.t 36]),oW 38 (.call (oF 68) [.t 33,.t 37]),oW 39 (.buildSlice 62 5 (.agg [.str [],.int .i64 0,.int .i64 0,.int .i64 0,.str []]) 1 [(0,.t 38)]),oW 40 (.append 62 5 56 (.t 32) (.t 39)),oM 3 40]) .skip))))
 (.region [oW 41 (.arith .add (.t 8) (oI 1)),oM 8 41]))))
def t18k0:DCode :=
 (oQ [oM 42 3,oM 2 42]
 .ret)
def t18:DFunc:={ntmps:=43,results:=[.t 2],mode:=.pure,body :=
 (oQ [oW 1 (.box 32 2 (.t 0)),oW 2 (.move (.c .nsl))]
 (oQ [oW 3 (.move (.c .nsl))]
 (.seq (oQ [oW 6 (.call (oF 67) []),oW 7 (.len 1 (.t 6)),oW 8 (.move (oI 0))]
 (.block 0 (.loop t18l0)))
 t18k0)))}
theorem c18:compFunc Tryz.prog Tryz.f18 .pure=some t18:=by kernel_rfl
def t19:DFunc:={ntmps:=44,results:=[(.cell 4 (some 6)),.t 5],mode:=.frz,body :=
 (oQ [oW 2 (.box 29 6 (.t 0)),oW 3 (.box 42 4 (.t 1)),oW 4 (.alloc 29 6 (.agg [.int .i64 0,.nsl,.nsl,.nsl,.nsl,.nsl])),oW 5 (.move (oB false))]
 (oQ [oL 10 6 2,oW 11 (.call (oF 70) [.t 10]),oS 6 2 11]
 (oQ [oL 13 6 2,oA 14 0 3,oL 15 2 14,oW 16 (.call (oF 71) [.t 13,.t 15]),oM 12 16,oX 17 12 0,oX 18 12 1,oM 6 17,oM 7 18]
 (.seq (oQ [oM 19 7]
 (.cond (.t 19) (oQ [oL 20 6 2,oS 6 4 20,oW 5 (.move (oB false))]
 .ret) .skip))
 (oQ [oL 22 6 2,oA 23 0 3,oL 24 2 23,oW 25 (.call (oF 72) [.t 22,.t 24]),oM 21 25,oX 26 21 0,oX 27 21 1,oM 8 26,oM 9 27]
 (oQ [oA 28 2 2,oD 29 28,oM 30 8,oL 31 4 3,oW 32 (.buildSlice 42 4 (.agg [.int .i64 0,.int .i64 0,.nsl,.int .i64 0]) 1 [(0,.t 31)]),oW 33 (.call (oF 73) [.t 29,.t 30,.t 32]),oA 34 2 2,oS 1 34 33]
 (oQ [oA 35 3 2,oD 36 35,oM 37 6,oA 38 0 3,oL 39 2 38,oW 40 (.buildSlice 37 2 (.agg [.int .i64 0,.int .i64 0]) 1 [(0,.t 39)]),oW 41 (.call (oF 74) [.t 36,.t 37,.t 40]),oA 42 3 2,oS 1 42 41]
 (oQ [oL 43 6 2,oS 6 4 43,oW 5 (.move (oB true))]
 .ret))))))))}
theorem c19:compFunc Tryz.prog Tryz.f19 .frz=some t19:=by kernel_rfl
def t20l0:DCode :=
 (.seq (.seq (.draw [oRA 13 3 2,oRD 14 13,oRM 12 6,oR 15 (.len 1 (.t 14)),oR 16 (.arith .lss (.t 12) (.t 15)),oRM 17 16,rA 18 3 2 17 true,rD 19 18 17 true,rM 20 6 17 true,rW 21 (.indexAddr 2 (.t 19) (.t 20)) 17 true,rL 22 2 21 17 true,rA 23 0 3 17 true,rL 24 2 23 17 true,gW 25 (.call (oF 76) [.t 22,.t 24]) 17 true,nK 26 (.pick (.t 17) (.t 25) (oB false)) .read 1])
 (.cond (.t 26) .skip (.exit 0)))
 (.block 1 (.region [oM 27 6,oW 28 (.arith .add (.t 27) (oI 1)),oM 6 28])))
def t20l1:DCode :=
 (.seq (.seq (.draw [oRA 46 2 2,oRD 47 46,oRM 45 6,oR 48 (.len 1 (.t 47)),oR 49 (.arith .lss (.t 45) (.t 48)),oRM 50 49,rA 51 2 2 50 true,rD 52 51 50 true,rM 53 6 50 true,rW 54 (.indexAddr 4 (.t 52) (.t 53)) 50 true,rA 55 0 54 50 true,rL 56 2 55 50 true,rA 57 0 3 50 true,rL 58 2 57 50 true,gW 59 (.call (oF 76) [.t 56,.t 58]) 50 true,nK 60 (.pick (.t 50) (.t 59) (oB false)) .read 1])
 (.cond (.t 60) .skip (.exit 2)))
 (.block 3 (.region [oM 61 6,oW 62 (.arith .add (.t 61) (oI 1)),oM 6 62])))
def t20k0:DCode :=
 (.seq (.draw [oRA 64 2 2,oRD 65 64,oRM 66 6,oR 67 (.sliceSl 4 (.t 65) none (some (.t 66))),nK 63 (.buildSlice 42 4 (.agg [.int .i64 0,.int .i64 0,.nsl,.int .i64 0]) 0 []) .create 0,nK 68 (.append 42 4 48 (.t 63) (.t 67)) .create 0,oRL 69 4 3,nK 70 (.buildSlice 42 4 (.agg [.int .i64 0,.int .i64 0,.nsl,.int .i64 0]) 1 [(0,.t 69)]) .create 0,nK 71 (.append 42 4 48 (.t 68) (.t 70)) .create 0,oRA 72 2 2,oRD 73 72,oRM 74 6,oR 75 (.sliceSl 4 (.t 73) (some (.t 74)) none),nK 76 (.append 42 4 48 (.t 71) (.t 75)) .write 4,nK 77 (.fieldAddr 2 (.t 2)) .read 5,⟨none,.store 1 (.t 77) (.t 76),none,.write,5,false⟩])
 (oQ [oL 78 6 2,oS 6 4 78,oW 5 (.move (oB true))]
 .ret))
def t20k1:DCode :=
 (.seq (.draw [oRA 30 3 2,oRD 31 30,oRM 32 6,oR 33 (.sliceSl 2 (.t 31) none (some (.t 32))),nK 29 (.buildSlice 37 2 (.agg [.int .i64 0,.int .i64 0]) 0 []) .create 0,nK 34 (.append 37 2 16 (.t 29) (.t 33)) .create 0,oRA 35 0 3,oRL 36 2 35,nK 37 (.buildSlice 37 2 (.agg [.int .i64 0,.int .i64 0]) 1 [(0,.t 36)]) .create 0,nK 38 (.append 37 2 16 (.t 34) (.t 37)) .create 0,oRA 39 3 2,oRD 40 39,oRM 41 6,oR 42 (.sliceSl 2 (.t 40) (some (.t 41)) none),nK 43 (.append 37 2 16 (.t 38) (.t 42)) .write 4,nK 44 (.fieldAddr 3 (.t 2)) .read 5,⟨none,.store 1 (.t 44) (.t 43),none,.write,5,false⟩])
 (oQ [oW 6 (.move (oI 0))]
 (.seq (.block 2 (.loop t20l1))
 t20k0)))
def t20:DFunc:={ntmps:=79,results:=[(.cell 4 (some 6)),.t 5],mode:=.frz,body :=
 (oQ [oW 2 (.box 29 6 (.t 0)),oW 3 (.box 42 4 (.t 1)),oW 4 (.alloc 29 6 (.agg [.int .i64 0,.nsl,.nsl,.nsl,.nsl,.nsl])),oW 5 (.move (oB false))]
 (.seq (oQ [oL 7 6 2,oA 8 0 3,oL 9 2 8,oW 10 (.call (oF 75) [.t 7,.t 9])]
 (.cond (.t 10) (oQ [oL 11 6 2,oS 6 4 11,oW 5 (.move (oB false))]
 .ret) .skip))
 (oQ [oW 6 (.move (oI 0))]
 (.seq (.block 0 (.loop t20l0))
 t20k1))))}
theorem c20:compFunc Tryz.prog Tryz.f20 .frz=some t20:=by kernel_rfl
def t22l0:DCode :=
 (oQ [oW 45 (.arith .lss (.t 44) (.t 43))]
 (.seq (.cond (.t 45) .skip (.exit 0))
 (.seq (.block 1 (oQ [oW 46 (.indexAddr 7 (.t 42) (.t 44)),oL 47 7 46,oW 11 (.alloc 58 7 (.agg [.int .i64 0,.int .i64 0,.int .i64 0,.int .i64 0,.nsl,.int .i64 0,.bool false])),oS 7 11 47]
 (oQ [oA 48 0 11,oL 49 2 48,oL 50 2 4,oW 51 (.eqa true [1,1] (.t 49) (.t 50))]
 (.cond (.t 51) (.region [oM 52 9,oL 53 7 11,oW 54 (.buildSlice 58 7 (.agg [.int .i64 0,.int .i64 0,.int .i64 0,.int .i64 0,.nsl,.int .i64 0,.bool false]) 1 [(0,.t 53)]),oW 55 (.append 58 7 72 (.t 52) (.t 54)),oM 9 55]) .skip))))
 (.region [oW 56 (.arith .add (.t 44) (oI 1)),oM 44 56]))))
def t22k0:DCode :=
 (oQ [oM 57 9,oA 58 4 3,oS 1 58 57]
 (oQ [oL 59 6 3,oS 6 6 59,oW 7 (.move (oB true))]
 .ret))
def t22:DFunc:={ntmps:=60,results:=[(.cell 6 (some 6)),.t 7],mode:=.frz,body :=
 (oQ [oW 3 (.box 29 6 (.t 0)),oW 4 (.box 37 2 (.t 1)),oW 6 (.alloc 29 6 (.agg [.int .i64 0,.nsl,.nsl,.nsl,.nsl,.nsl])),oW 7 (.move (oB false))]
 (oQ [oL 12 6 3,oL 13 2 4,oW 14 (.call (oF 24) [.t 12,.t 13]),oM 8 14]
 (.seq (oQ [oM 15 8,oW 16 (.arith .lss (.t 15) (oI 0)),oM 17 16,gA 18 2 3 17 false,gD 19 18 17 false,gM 20 8 17 false,gW 21 (.indexAddr 4 (.t 19) (.t 20)) 17 false,gA 22 3 21 17 false,gD 23 22 17 false,gM 24 2 17 false,gW 25 (.arith .neq (.t 23) (.t 24)) 17 false,oW 26 (.pick (.t 17) (oB true) (.t 25))]
 (.cond (.t 26) (oQ [oL 27 6 3,oS 6 6 27,oW 7 (.move (oB false))]
 .ret) .skip))
 (.seq (.draw [oRA 29 2 3,oRD 30 29,oRM 31 8,oR 32 (.sliceSl 4 (.t 30) none (some (.t 31))),nK 28 (.buildSlice 42 4 (.agg [.int .i64 0,.int .i64 0,.nsl,.int .i64 0]) 0 []) .create 0,nK 33 (.append 42 4 48 (.t 28) (.t 32)) .create 0,oRA 34 2 3,oRD 35 34,oRM 36 8,oR 37 (.arith .add (.t 36) (oI 1)),oR 38 (.sliceSl 4 (.t 35) (some (.t 37)) none),nK 39 (.append 42 4 48 (.t 33) (.t 38)) .write 2,nK 40 (.fieldAddr 2 (.t 3)) .read 3,⟨none,.store 1 (.t 40) (.t 39),none,.write,3,false⟩])
 (oQ [oW 9 (.move (.c .nsl))]
 (.seq (oQ [oA 41 4 3,oD 42 41,oW 43 (.len 1 (.t 42)),oW 44 (.move (oI 0))]
 (.block 0 (.loop t22l0)))
 t22k0))))))}
theorem c22:compFunc Tryz.prog Tryz.f22 .frz=some t22:=by kernel_rfl
def t23:DFunc:={ntmps:=22,results:=[(.cell 4 (some 4)),.t 5],mode:=.pure,body :=
 (oQ [oW 2 (.box 29 6 (.t 0)),oW 3 (.box 37 2 (.t 1)),oW 4 (.alloc 42 4 (.agg [.int .i64 0,.int .i64 0,.nsl,.int .i64 0])),oW 5 (.move (oB false))]
 (oQ [oL 9 6 2,oL 10 2 3,oW 11 (.call (oF 72) [.t 9,.t 10]),oM 8 11,oX 12 8 0,oX 13 8 1,oM 6 12,oM 7 13]
 (.seq (oQ [oM 14 7,oW 15 (.un .not (.t 14))]
 (.cond (.t 15) (oQ [oW 16 (.build [.int .i64 0,.int .i64 0,.nsl,.int .i64 0] []),oS 4 4 16,oW 5 (.move (oB false))]
 .ret) .skip))
 (oQ [oA 17 2 2,oD 18 17,oM 19 6,oW 20 (.indexAddr 4 (.t 18) (.t 19)),oL 21 4 20,oS 4 4 21,oW 5 (.move (oB true))]
 .ret))))}
theorem c23:compFunc Tryz.prog Tryz.f23 .pure=some t23:=by kernel_rfl
def t24l0:DCode :=
 (oQ [oW 11 (.arith .lss (.t 10) (.t 9))]
 (.seq (.cond (.t 11) .skip (.exit 0))
 (.seq (.block 1 (oQ [oM 12 10,oW 13 (.indexAddr 4 (.t 8) (.t 10)),oL 14 4 13,oW 6 (.alloc 42 4 (.agg [.int .i64 0,.int .i64 0,.nsl,.int .i64 0])),oM 5 12,oS 4 6 14]
 (oQ [oA 15 0 6,oL 16 2 15,oL 17 2 3,oW 18 (.eqa false [1,1] (.t 16) (.t 17))]
 (.cond (.t 18) (oQ [oM 19 5,oM 4 19]
 .ret) .skip))))
 (.region [oW 20 (.arith .add (.t 10) (oI 1)),oM 10 20]))))
def t24k0:DCode :=
 (oQ [oW 4 (.move (oI (-1)))]
 .ret)
def t24:DFunc:={ntmps:=21,results:=[.t 4],mode:=.pure,body :=
 (oQ [oW 2 (.box 29 6 (.t 0)),oW 3 (.box 37 2 (.t 1)),oW 4 (.move (oI 0))]
 (.seq (oQ [oA 7 2 2,oD 8 7,oW 9 (.len 1 (.t 8)),oW 10 (.move (oI 0))]
 (.block 0 (.loop t24l0)))
 t24k0))}
theorem c24:compFunc Tryz.prog Tryz.f24 .pure=some t24:=by kernel_rfl
def t25l0:DCode :=
 (oQ [oW 58 (.arith .lss (.t 57) (.t 56))]
 (.seq (.cond (.t 58) .skip (.exit 0))
 (.seq (.block 1 (oQ [oM 59 57,oM 5 59]
 (.seq (.draw [oRA 60 2 2,oRD 61 60,oRM 62 5,oR 63 (.indexAddr 4 (.t 61) (.t 62)),oRA 64 0 63,oRL 65 2 64,oRA 66 2 3,oRD 67 66,oRM 68 5,oR 69 (.indexAddr 4 (.t 67) (.t 68)),oRA 70 0 69,oRL 71 2 70,oR 72 (.eqa true [1,1] (.t 65) (.t 71)),oRM 73 72,rA 74 2 2 73 false,rD 75 74 73 false,rM 76 5 73 false,rW 77 (.indexAddr 4 (.t 75) (.t 76)) 73 false,rA 78 3 77 73 false,rD 79 78 73 false,rA 80 2 3 73 false,rD 81 80 73 false,rM 82 5 73 false,rW 83 (.indexAddr 4 (.t 81) (.t 82)) 73 false,rA 84 3 83 73 false,rD 85 84 73 false,rW 86 (.arith .neq (.t 79) (.t 85)) 73 false,oR 87 (.pick (.t 73) (oB true) (.t 86)),oRM 88 87,rA 89 2 2 88 false,rD 90 89 88 false,rM 91 5 88 false,rW 92 (.indexAddr 4 (.t 90) (.t 91)) 88 false,rA 93 2 92 88 false,rD 94 93 88 false,rA 95 2 3 88 false,rD 96 95 88 false,rM 97 5 88 false,rW 98 (.indexAddr 4 (.t 96) (.t 97)) 88 false,rA 99 2 98 88 false,rD 100 99 88 false,gW 101 (.call (oF 48) [.t 94,.t 100]) 88 false,⟨(some 102),.un .not (.t 101),(some (88,false)),.read,1,false⟩,nK 103 (.pick (.t 88) (oB true) (.t 102)) .read 1])
 (.cond (.t 103) (oQ [oW 4 (.move (oB false))]
 .ret) .skip))))
 (.region [oW 104 (.arith .add (.t 57) (oI 1)),oM 57 104]))))
def t25l1:DCode :=
 (oQ [oW 109 (.arith .lss (.t 108) (.t 107))]
 (.seq (.cond (.t 109) .skip (.exit 2))
 (.seq (.block 3 (oQ [oM 110 108,oM 6 110]
 (.seq (.draw [oRA 111 5 2,oRD 112 111,oRM 113 6,oR 114 (.indexAddr 3 (.t 112) (.t 113)),oRA 115 0 114,oRL 116 2 115,oRA 117 5 3,oRD 118 117,oRM 119 6,oR 120 (.indexAddr 3 (.t 118) (.t 119)),oRA 121 0 120,oRL 122 2 121,oR 123 (.eqa true [1,1] (.t 116) (.t 122)),oRM 124 123,rA 125 5 2 124 false,rD 126 125 124 false,rM 127 6 124 false,rW 128 (.indexAddr 3 (.t 126) (.t 127)) 124 false,rA 129 2 128 124 false,rD 130 129 124 false,rA 131 5 3 124 false,rD 132 131 124 false,rM 133 6 124 false,rW 134 (.indexAddr 3 (.t 132) (.t 133)) 124 false,rA 135 2 134 124 false,rD 136 135 124 false,gW 137 (.call (oF 48) [.t 130,.t 136]) 124 false,⟨(some 138),.un .not (.t 137),(some (124,false)),.read,1,false⟩,nK 139 (.pick (.t 124) (oB true) (.t 138)) .read 1])
 (.cond (.t 139) (oQ [oW 4 (.move (oB false))]
 .ret) .skip))))
 (.region [oW 140 (.arith .add (.t 108) (oI 1)),oM 108 140]))))
def t25k0:DCode :=
 (oQ [oW 4 (.move (oB true))]
 .ret)
def t25k1:DCode :=
 (.seq (oQ [oA 105 5 2,oD 106 105,oW 107 (.len 1 (.t 106)),oW 108 (.move (oI 0))]
 (.block 2 (.loop t25l1)))
 t25k0)
def t25:DFunc:={ntmps:=141,results:=[.t 4],mode:=.pure,body :=
 (oQ [oW 2 (.box 29 6 (.t 0)),oW 3 (.box 29 6 (.t 1)),oW 4 (.move (oB false))]
 (.seq (oQ [oA 7 0 2,oD 8 7,oA 9 0 3,oD 10 9,oW 11 (.arith .neq (.t 8) (.t 10)),oM 12 11,gA 13 1 2 12 false,gD 14 13 12 false,gA 15 1 3 12 false,gD 16 15 12 false,gW 17 (.call (oF 80) [.t 14,.t 16]) 12 false,gW 18 (.un .not (.t 17)) 12 false,oW 19 (.pick (.t 12) (oB true) (.t 18)),oM 20 19,gA 21 3 2 20 false,gD 22 21 20 false,gA 23 3 3 20 false,gD 24 23 20 false,gW 25 (.call (oF 81) [.t 22,.t 24]) 20 false,gW 26 (.un .not (.t 25)) 20 false,oW 27 (.pick (.t 20) (oB true) (.t 26)),oM 28 27,gA 29 2 2 28 false,gD 30 29 28 false,gW 31 (.len 1 (.t 30)) 28 false,gA 32 2 3 28 false,gD 33 32 28 false,gW 34 (.len 1 (.t 33)) 28 false,gW 35 (.arith .neq (.t 31) (.t 34)) 28 false,oW 36 (.pick (.t 28) (oB true) (.t 35)),oM 37 36,gA 38 5 2 37 false,gD 39 38 37 false,gW 40 (.len 1 (.t 39)) 37 false,gA 41 5 3 37 false,gD 42 41 37 false,gW 43 (.len 1 (.t 42)) 37 false,gW 44 (.arith .neq (.t 40) (.t 43)) 37 false,oW 45 (.pick (.t 37) (oB true) (.t 44)),oM 46 45,gA 47 4 2 46 false,gD 48 47 46 false,gA 49 4 3 46 false,gD 50 49 46 false,gW 51 (.call (oF 39) [.t 48,.t 50]) 46 false,gW 52 (.un .not (.t 51)) 46 false,oW 53 (.pick (.t 46) (oB true) (.t 52))]
 (.cond (.t 53) (oQ [oW 4 (.move (oB false))]
 .ret) .skip))
 (.seq (oQ [oA 54 2 2,oD 55 54,oW 56 (.len 1 (.t 55)),oW 57 (.move (oI 0))]
 (.block 0 (.loop t25l0)))
 t25k1)))}
theorem c25:compFunc Tryz.prog Tryz.f25 .pure=some t25:=by kernel_rfl
def t27:DFunc:={ntmps:=48,results:=[.t 2],mode:=.pure,body :=
 (oQ [oW 1 (.box 29 6 (.t 0)),oW 2 (.move (oB false))]
 (oQ [oA 4 1 1,oD 5 4,oW 6 (.call (oF 91) [.t 5,oF 92]),oM 7 6,gA 8 3 1 7 true,gD 9 8 7 true,gW 10 (.call (oF 93) [.t 9,oF 56]) 7 true,oW 11 (.pick (.t 7) (.t 10) (oB false)),oM 12 11,gA 13 2 1 12 true,gD 14 13 12 true,gW 15 (.call (oF 94) [.t 14,oF 95]) 12 true,oW 16 (.pick (.t 12) (.t 15) (oB false)),oM 17 16,gA 18 5 1 17 true,gD 19 18 17 true,gW 20 (.call (oF 96) [.t 19,oF 97]) 17 true,oW 21 (.pick (.t 17) (.t 20) (oB false)),oM 22 21,gA 23 4 1 22 true,gD 24 23 22 true,gW 25 (.call (oF 98) [.t 24,oF 99]) 22 true,oW 26 (.pick (.t 22) (.t 25) (oB false)),oM 3 26]
 (oQ [oM 27 3,oM 28 27,gA 29 2 1 28 true,gD 30 29 28 true,gW 31 (.makeFunc 103 [.t 1]) 28 true,gW 32 (.call (oF 102) [.t 30,.t 31]) 28 true,gW 33 (.un .not (.t 32)) 28 true,oW 34 (.pick (.t 28) (.t 33) (oB false)),oM 35 34,gA 36 4 1 35 true,gD 37 36 35 true,gW 38 (.makeFunc 107 [.t 1]) 35 true,gW 39 (.call (oF 106) [.t 37,.t 38]) 35 true,gW 40 (.un .not (.t 39)) 35 true,oW 41 (.pick (.t 35) (.t 40) (oB false)),oM 42 41,gA 43 5 1 42 true,gD 44 43 42 true,gW 45 (.call (oF 109) [.t 44,oF 110]) 42 true,gW 46 (.un .not (.t 45)) 42 true,oW 47 (.pick (.t 42) (.t 46) (oB false)),oM 2 47]
 .ret)))}
theorem c27:compFunc Tryz.prog Tryz.f27 .pure=some t27:=by kernel_rfl
def t29s0:DCode :=
 (.region [oW 25 (.arith .add (.t 15) (oI 1)),oM 15 25])
def t29l0:DCode :=
 (oQ [oW 16 (.arith .lss (.t 15) (.t 14))]
 (.seq (.cond (.t 16) .skip (.exit 0))
 (.seq (.block 1 (oQ [oM 17 15,oM 4 17]
 (.region [oA 18 1 3,oD 19 18,oM 20 4,oW 21 (.arith .add (.t 20) (oI 1)),oW 22 (.buildSlice 3 1 (.int .i64 0) 1 [(0,.t 21)]),oW 23 (.append 3 1 8 (.t 19) (.t 22)),oA 24 1 3,oS 1 24 23])))
 t29s0)))
def t29s1:DCode :=
 (.region [oM 35 5,oW 36 (.arith .add (.t 35) (oI 1)),oM 5 36])
def t29l1:DCode :=
 (.seq (oQ [oM 26 5,oA 27 1 1,oD 28 27,oW 29 (.len 1 (.t 28)),oW 30 (.arith .lss (.t 26) (.t 29)),oM 31 30,gM 32 5 31 true,gW 33 (.arith .lss (.t 32) (oI 12)) 31 true,oW 34 (.pick (.t 31) (.t 33) (oB false))]
 (.cond (.t 34) .skip (.exit 2)))
 (.seq (.block 3 (oQ [oA 37 1 1,oD 38 37,oM 39 5,oW 40 (.indexAddr 7 (.t 38) (.t 39)),oL 41 7 40,oW 6 (.alloc 96 7 (.agg [.int .i64 0,.int .i64 0,.int .i64 0,.int .i64 0,.int .i64 0,.nsl,.nsl])),oS 7 6 41]
 (oQ [oA 42 2 6,oD 43 42,oW 44 (.call (oF 16) [.t 43,oI 0,oI 2]),oW 45 (.build [.int .i64 0,.int .i64 0] [(0,1,.t 44)]),oW 7 (.alloc 37 2 (.agg [.int .i64 0,.int .i64 0])),oS 2 7 45]
 (.seq (.draw [oRA 46 3 6,oRD 47 46,nK 48 (.call (oF 16) [.t 47,oI 0,oI 4]) .create 0,oRA 49 4 6,oRD 50 49,nK 51 (.call (oF 16) [.t 50,oI 0,oI 2]) .write 1,nK 52 (.build [.int .i64 0,.int .i64 0] [(0,1,.t 48),(1,1,.t 51)]) .read 2,nK 8 (.alloc 37 2 (.agg [.int .i64 0,.int .i64 0])) .create 0,⟨none,.store 2 (.t 8) (.t 52),none,.write,3,false⟩])
 (oQ [oL 53 6 3,oA 54 1 6,oD 55 54,oW 56 (.call (oF 30) [.t 53,.t 55]),oM 9 56]
 (.seq (.draw [oRA 57 0 6,oRD 58 57,nK 59 (.call (oF 16) [.t 58,oI 1,oI 7]) .create 0,oRL 60 2 7,oRL 61 2 8,oRA 62 5 6,oRL 63 2 62,nK 64 (.call (oF 18) [.t 63]) .create 0,nK 65 (.build [.int .i64 0,.int .i64 0,.int .i64 0,.int .i64 0,.int .i64 0,.nsl,.nsl] [(0,1,.t 59),(1,2,.t 60),(3,2,.t 61),(5,1,.t 64)]) .read 2,nK 10 (.alloc 84 7 (.agg [.int .i64 0,.int .i64 0,.int .i64 0,.int .i64 0,.int .i64 0,.nsl,.nsl])) .create 0,⟨none,.store 7 (.t 10) (.t 65),none,.write,3,false⟩])
 (.block 4 (oQ [oA 75 0 10,oD 76 75,oW 77 (.arith .eql (.t 76) (oI 6)),oM 74 77]
 (.cond (.t 74) (.region [oL 79 6 3,oL 80 2 8,oA 81 5 10,oD 82 81,oW 83 (.call (oF 46) [.t 79,.t 80,.t 82]),oM 78 83,oX 84 78 0,oX 85 78 1,oS 6 3 84]) (oQ [oA 87 0 10,oD 88 87,oW 89 (.arith .eql (.t 88) (oI 7)),oM 86 89]
 (.cond (.t 86) (.region [oL 91 6 3,oL 92 2 8,oW 93 (.call (oF 61) [.t 91,.t 92]),oM 90 93,oX 94 90 0,oX 95 90 1,oS 6 3 94]) (.seq (oQ [oA 97 0 10,oD 98 97,oW 99 (.arith .eql (.t 98) (oI 3)),oM 100 99,gM 101 9 100 true,gW 102 (.arith .eql (.t 101) (oI (-1))) 100 true,oW 103 (.pick (.t 100) (.t 102) (oB false)),oM 96 103]
 (.cond (.t 96) .skip (oQ [oA 104 0 10,oD 105 104,oW 106 (.arith .eql (.t 105) (oI 4)),oM 107 106,gM 108 9 107 true,gW 109 (.arith .eql (.t 108) (oI (-1))) 107 true,oW 110 (.pick (.t 107) (.t 109) (oB false)),oM 96 110]
 (.cond (.t 96) .skip (.region [oA 111 0 10,oD 112 111,oW 113 (.arith .eql (.t 112) (oI 5)),oM 96 113])))))
 (.cond (.t 96) (.region [oL 115 6 3,oM 116 9,oL 117 2 7,oA 118 5 10,oD 119 118,oW 120 (.call (oF 59) [.t 115,.t 116,.t 117,.t 119]),oM 114 120,oX 121 114 0,oX 122 114 1,oS 6 3 121]) (.region [oL 67 6 3,oM 68 9,oL 69 7 10,oW 70 (.call (oF 111) [.t 67,.t 68,.t 69]),oM 66 70,oX 71 66 0,oX 72 66 1,oX 73 66 2,oS 6 3 71]))))))))))))))
 t29s1))
def t29k0:DCode :=
 (oQ [oL 123 6 3,oS 6 2 123]
 .ret)
def t29k1:DCode :=
 (.seq (oQ [oW 5 (.move (oI 0))]
 (.block 2 (.loop t29l1)))
 t29k0)
def t29:DFunc:={ntmps:=124,results:=[(.cell 2 (some 6))],mode:=.pure,body :=
 (oQ [oW 1 (.box 55 2 (.t 0)),oW 2 (.alloc 29 6 (.agg [.int .i64 0,.nsl,.nsl,.nsl,.nsl,.nsl]))]
 (oQ [oW 11 (.build [.int .i64 0,.nsl,.nsl,.nsl,.nsl,.nsl] [(0,1,oI 0)]),oW 3 (.alloc 29 6 (.agg [.int .i64 0,.nsl,.nsl,.nsl,.nsl,.nsl])),oS 6 3 11]
 (.seq (oQ [oA 12 0 1,oD 13 12,oW 14 (.call (oF 16) [.t 13,oI 1,oI 4]),oW 15 (.move (oI 0))]
 (.block 0 (.loop t29l0)))
 t29k1)))}
theorem c29:compFunc Tryz.prog Tryz.f29 .pure=some t29:=by kernel_rfl
def t30:DFunc:={ntmps:=21,results:=[.t 4],mode:=.pure,body :=
 (oQ [oW 2 (.box 29 6 (.t 0)),oW 4 (.move (oI 0))]
 (.seq (oQ [oM 6 1,oA 7 1 2,oD 8 7,oW 9 (.len 1 (.t 8)),oW 10 (.call (oF 16) [.t 6,oI 0,.t 9]),oM 5 10]
 (oQ [oM 11 5,oA 12 1 2,oD 13 12,oW 14 (.len 1 (.t 13)),oW 15 (.arith .lss (.t 11) (.t 14))]
 (.cond (.t 15) (oQ [oA 16 1 2,oD 17 16,oM 18 5,oW 19 (.indexAddr 1 (.t 17) (.t 18)),oD 20 19,oM 4 20]
 .ret) .skip)))
 (oQ [oW 4 (.move (oI (-1)))]
 .ret)))}
theorem c30:compFunc Tryz.prog Tryz.f30 .pure=some t30:=by kernel_rfl
def t31:DFunc:={ntmps:=73,results:=[(.cell 4 (some 6)),.t 5],mode:=.frz,body :=
 (oQ [oW 2 (.box 29 6 (.t 0)),oW 3 (.box 58 7 (.t 1)),oW 4 (.alloc 29 6 (.agg [.int .i64 0,.nsl,.nsl,.nsl,.nsl,.nsl])),oW 5 (.move (oB false))]
 (oQ [oA 11 4 2,oD 12 11,oW 13 (.call (oF 112) [.t 12]),oA 14 4 2,oS 1 14 13]
 (oQ [oL 16 6 2,oA 17 0 3,oL 18 2 17,oW 19 (.call (oF 23) [.t 16,.t 18]),oM 15 19,oX 20 15 0,oX 21 15 1,oW 6 (.alloc 42 4 (.agg [.int .i64 0,.int .i64 0,.nsl,.int .i64 0])),oS 4 6 20,oM 7 21]
 (oQ [oL 23 6 2,oA 24 0 3,oL 25 2 24,oA 26 2 3,oL 27 2 26,oW 28 (.call (oF 113) [.t 23,.t 25,.t 27]),oM 22 28,oX 29 22 0,oX 30 22 1,oM 8 29,oM 9 30]
 (oQ [oA 31 3 6,oD 32 31,oW 33 (.arith .eql (.t 32) (oI (-1))),oM 10 33]
 (.seq (oQ [oM 34 7,oW 35 (.un .not (.t 34)),oM 36 35,gM 37 9 36 false,oW 38 (.pick (.t 36) (oB true) (.t 37)),oM 39 38,gA 40 5 3 39 false,gD 41 40 39 false,gA 42 3 6 39 false,gD 43 42 39 false,gW 44 (.arith .eql (.t 41) (.t 43)) 39 false,gM 45 44 39 false,gM 46 10 45 true,gW 47 (.un .not (.t 46)) 45 true,gW 48 (.pick (.t 45) (.t 47) (oB false)) 39 false,oW 49 (.pick (.t 39) (oB true) (.t 48))]
 (.cond (.t 49) (oQ [oL 50 6 2,oS 6 4 50,oW 5 (.move (oB false))]
 .ret) .skip))
 (oQ [oM 51 10,oW 52 (.un .not (.t 51)),oM 53 52,gL 54 6 2 53 true,gA 55 0 3 53 true,gL 56 2 55 53 true,gA 57 4 3 53 true,gD 58 57 53 true,gW 59 (.call (oF 35) [.t 54,.t 56,.t 58]) 53 true,gW 60 (.un .not (.t 59)) 53 true,oW 61 (.pick (.t 53) (.t 60) (oB false)),oA 62 6 3,oS 1 62 61]
 (oQ [oA 63 4 2,oD 64 63,oM 65 8,oL 66 7 3,oW 67 (.buildSlice 58 7 (.agg [.int .i64 0,.int .i64 0,.int .i64 0,.int .i64 0,.nsl,.int .i64 0,.bool false]) 1 [(0,.t 66)]),oW 68 (.call (oF 114) [.t 64,.t 65,.t 67]),oA 69 4 2,oS 1 69 68]
 (.seq (.draw [⟨(some 70),.load (some 6) (.t 2),none,.read,0,true⟩,oRA 71 6 3,oRD 72 71,⟨none,.store 6 (.t 4) (.t 70),none,.create,0,false⟩,nK 5 (.move (.t 72)) .read 1])
 .ret)))))))))}
theorem c31:compFunc Tryz.prog Tryz.f31 .frz=some t31:=by kernel_rfl
def t34l0:DCode :=
 (oQ [oW 59 (.arith .lss (.t 58) (.t 57))]
 (.seq (.cond (.t 59) .skip (.exit 0))
 (.seq (.block 1 (oQ [oM 60 58,oW 61 (.indexAddr 7 (.t 56) (.t 58)),oL 62 7 61,oW 14 (.alloc 58 7 (.agg [.int .i64 0,.int .i64 0,.int .i64 0,.int .i64 0,.nsl,.int .i64 0,.bool false])),oM 13 60,oS 7 14 62]
 (oQ [oA 63 0 14,oL 64 2 63,oL 65 2 5,oW 66 (.eqa false [1,1] (.t 64) (.t 65)),oM 67 66,gA 68 6 14 67 true,gD 69 68 67 true,gW 70 (.un .not (.t 69)) 67 true,oW 71 (.pick (.t 67) (.t 70) (oB false)),oM 72 71,gL 73 6 4 72 true,gL 74 2 5 72 true,gA 75 4 14 72 true,gD 76 75 72 true,gW 77 (.call (oF 35) [.t 73,.t 74,.t 76]) 72 true,gW 78 (.un .not (.t 77)) 72 true,oW 79 (.pick (.t 72) (.t 78) (oB false))]
 (.cond (.t 79) (oQ [oA 80 4 4,oD 81 80,oM 82 13,oW 83 (.indexAddr 7 (.t 81) (.t 82)),oA 84 6 83,oZ (.store 1 (.t 84) (oB true))]
 (.region [oM 85 9,oA 86 4 4,oD 87 86,oM 88 13,oW 89 (.indexAddr 7 (.t 87) (.t 88)),oL 90 7 89,oW 91 (.buildSlice 58 7 (.agg [.int .i64 0,.int .i64 0,.int .i64 0,.int .i64 0,.nsl,.int .i64 0,.bool false]) 1 [(0,.t 90)]),oW 92 (.append 58 7 72 (.t 85) (.t 91)),oM 9 92])) .skip))))
 (.region [oW 93 (.arith .add (.t 58) (oI 1)),oM 58 93]))))
def t34k0:DCode :=
 (oQ [oL 94 6 4,oM 95 9,oS 6 8 94,oM 9 95,oW 10 (.move (oB true))]
 .ret)
def t34:DFunc:={ntmps:=96,results:=[(.cell 8 (some 6)),.t 9,.t 10],mode:=.frz,body :=
 (oQ [oW 4 (.box 29 6 (.t 0)),oW 5 (.box 37 2 (.t 1)),oW 6 (.box 37 2 (.t 2)),oW 8 (.alloc 29 6 (.agg [.int .i64 0,.nsl,.nsl,.nsl,.nsl,.nsl])),oW 9 (.move (.c .nsl)),oW 10 (.move (oB false))]
 (oQ [oA 15 4 4,oD 16 15,oW 17 (.call (oF 112) [.t 16]),oA 18 4 4,oS 1 18 17]
 (oQ [oL 20 6 4,oL 21 2 5,oL 22 2 6,oW 23 (.call (oF 113) [.t 20,.t 21,.t 22]),oM 19 23,oX 24 19 0,oX 25 19 1,oM 11 24,oM 12 25]
 (.seq (oQ [oM 26 12,oW 27 (.un .not (.t 26)),oM 28 27,gA 29 4 4 28 false,gD 30 29 28 false,gM 31 11 28 false,gW 32 (.indexAddr 7 (.t 30) (.t 31)) 28 false,gA 33 5 32 28 false,gD 34 33 28 false,gM 35 3 28 false,gW 36 (.arith .neq (.t 34) (.t 35)) 28 false,oW 37 (.pick (.t 28) (oB true) (.t 36))]
 (.cond (.t 37) (oQ [oL 38 6 4,oS 6 8 38,oW 9 (.move (.c .nsl)),oW 10 (.move (oB false))]
 .ret) .skip))
 (oQ [oA 39 4 4,oD 40 39,oM 41 11,oW 42 (.indexAddr 7 (.t 40) (.t 41)),oA 43 6 42,oD 44 43,oM 10 44]
 (oQ [oA 45 4 4,oD 46 45,oM 47 11,oM 48 11,oW 49 (.arith .add (.t 48) (oI 1)),oW 50 (.call (oF 116) [.t 46,.t 47,.t 49]),oA 51 4 4,oS 1 51 50]
 (.seq (oQ [oM 52 10,oW 53 (.un .not (.t 52))]
 (.cond (.t 53) (oQ [oL 54 6 4,oS 6 8 54,oW 9 (.move (.c .nsl)),oW 10 (.move (oB false))]
 .ret) .skip))
 (.seq (oQ [oA 55 4 4,oD 56 55,oW 57 (.len 1 (.t 56)),oW 58 (.move (oI 0))]
 (.block 0 (.loop t34l0)))
 t34k0))))))))}
theorem c34:compFunc Tryz.prog Tryz.f34 .frz=some t34:=by kernel_rfl
def t35:DFunc:={ntmps:=12,results:=[.t 6],mode:=.pure,body :=
 (oQ [oW 3 (.box 29 6 (.t 0)),oW 4 (.box 37 2 (.t 1)),oW 5 (.box 39 1 (.t 2)),oW 6 (.move (oB false))]
 (oQ [oL 7 6 3,oL 8 2 4,oW 9 (.call (oF 40) [.t 7,.t 8]),oW 10 (.makeFunc 117 [.t 5]),oW 11 (.call (oF 106) [.t 9,.t 10]),oM 6 11]
 .ret))}
theorem c35:compFunc Tryz.prog Tryz.f35 .pure=some t35:=by kernel_rfl
def t36l0:DCode :=
 (oQ [oW 13 (.arith .lss (.t 12) (.t 11))]
 (.seq (.cond (.t 13) .skip (.exit 0))
 (.seq (.block 1 (oQ [oW 14 (.indexAddr 7 (.t 10) (.t 12)),oL 15 7 14,oW 8 (.alloc 58 7 (.agg [.int .i64 0,.int .i64 0,.int .i64 0,.int .i64 0,.nsl,.int .i64 0,.bool false])),oS 7 8 15]
 (oQ [oA 16 0 8,oL 17 2 16,oL 18 2 4,oW 19 (.eqa false [1,1] (.t 17) (.t 18)),oM 20 19,gA 21 6 8 20 true,gD 22 21 20 true,oW 23 (.pick (.t 20) (.t 22) (oB false)),oM 24 23,gA 25 4 8 24 true,gD 26 25 24 true,gM 27 2 24 true,gW 28 (.call (oF 118) [.t 26,.t 27]) 24 true,oW 29 (.pick (.t 24) (.t 28) (oB false))]
 (.cond (.t 29) (oQ [oW 6 (.move (oB true))]
 .ret) .skip))))
 (.region [oW 30 (.arith .add (.t 12) (oI 1)),oM 12 30]))))
def t36k0:DCode :=
 (oQ [oW 6 (.move (oB false))]
 .ret)
def t36:DFunc:={ntmps:=31,results:=[.t 6],mode:=.pure,body :=
 (oQ [oW 3 (.box 29 6 (.t 0)),oW 4 (.box 37 2 (.t 1)),oW 6 (.move (oB false))]
 (.seq (oQ [oA 9 4 3,oD 10 9,oW 11 (.len 1 (.t 10)),oW 12 (.move (oI 0))]
 (.block 0 (.loop t36l0)))
 t36k0))}
theorem c36:compFunc Tryz.prog Tryz.f36 .pure=some t36:=by kernel_rfl
def t37l0:DCode :=
 (.seq (.seq (.draw [oRA 58 4 2,oRD 59 58,oRM 57 7,oR 60 (.len 1 (.t 59)),oR 61 (.arith .lss (.t 57) (.t 60)),oRM 62 61,rA 63 4 2 62 true,rD 64 63 62 true,rM 65 7 62 true,rW 66 (.indexAddr 7 (.t 64) (.t 65)) 62 true,rA 67 0 66 62 true,rL 68 2 67 62 true,rA 69 0 3 62 true,rL 70 2 69 62 true,gW 71 (.call (oF 76) [.t 68,.t 70]) 62 true,⟨(some 72),.move (.t 71),(some (62,true)),.read,1,false⟩,⟨(some 73),.fieldAddr 4 (.t 2),(some (72,false)),.read,1,false⟩,⟨(some 74),.load none (.t 73),(some (72,false)),.read,1,false⟩,⟨(some 75),.move (.t 7),(some (72,false)),.read,1,false⟩,⟨(some 76),.indexAddr 7 (.t 74) (.t 75),(some (72,false)),.read,1,false⟩,⟨(some 77),.fieldAddr 0 (.t 76),(some (72,false)),.read,1,false⟩,⟨(some 78),.load (some 2) (.t 77),(some (72,false)),.read,1,false⟩,⟨(some 79),.fieldAddr 0 (.t 3),(some (72,false)),.read,1,false⟩,⟨(some 80),.load (some 2) (.t 79),(some (72,false)),.read,1,false⟩,⟨(some 81),.eqa false [1,1] (.t 78) (.t 80),(some (72,false)),.read,1,false⟩,⟨(some 82),.move (.t 81),(some (72,false)),.read,1,false⟩,⟨(some 83),.fieldAddr 4 (.t 2),(some (82,true)),.read,1,false⟩,⟨(some 84),.load none (.t 83),(some (82,true)),.read,1,false⟩,⟨(some 85),.move (.t 7),(some (82,true)),.read,1,false⟩,⟨(some 86),.indexAddr 7 (.t 84) (.t 85),(some (82,true)),.read,1,false⟩,⟨(some 87),.fieldAddr 2 (.t 86),(some (82,true)),.read,1,false⟩,⟨(some 88),.load (some 2) (.t 87),(some (82,true)),.read,1,false⟩,⟨(some 89),.fieldAddr 2 (.t 3),(some (82,true)),.read,1,false⟩,⟨(some 90),.load (some 2) (.t 89),(some (82,true)),.read,1,false⟩,⟨(some 91),.call (oF 76) [.t 88,.t 90],(some (82,true)),.write,1,false⟩,⟨(some 92),.pick (.t 82) (.t 91) (oB false),(some (72,false)),.read,2,false⟩,⟨(some 93),.pick (.t 72) (oB true) (.t 92),(some (62,true)),.read,2,false⟩,nK 94 (.pick (.t 62) (.t 93) (oB false)) .read 2])
 (.cond (.t 94) .skip (.exit 0)))
 (.block 1 (.region [oM 95 7,oW 96 (.arith .add (.t 95) (oI 1)),oM 7 96])))
def t37k0:DCode :=
 (.seq (.draw [oRA 98 4 2,oRD 99 98,oRM 100 7,oR 101 (.sliceSl 7 (.t 99) none (some (.t 100))),nK 97 (.buildSlice 58 7 (.agg [.int .i64 0,.int .i64 0,.int .i64 0,.int .i64 0,.nsl,.int .i64 0,.bool false]) 0 []) .create 0,nK 102 (.append 58 7 72 (.t 97) (.t 101)) .create 0,oRL 103 7 3,nK 104 (.buildSlice 58 7 (.agg [.int .i64 0,.int .i64 0,.int .i64 0,.int .i64 0,.nsl,.int .i64 0,.bool false]) 1 [(0,.t 103)]) .create 0,nK 105 (.append 58 7 72 (.t 102) (.t 104)) .create 0,oRA 106 4 2,oRD 107 106,oRM 108 7,oR 109 (.sliceSl 7 (.t 107) (some (.t 108)) none),nK 110 (.append 58 7 72 (.t 105) (.t 109)) .write 4,nK 111 (.fieldAddr 4 (.t 2)) .read 5,⟨none,.store 1 (.t 111) (.t 110),none,.write,5,false⟩])
 (.seq (.draw [⟨(some 112),.load (some 6) (.t 2),none,.read,0,true⟩,oRA 113 6 3,oRD 114 113,⟨none,.store 6 (.t 4) (.t 112),none,.create,0,false⟩,nK 5 (.move (.t 114)) .read 1])
 .ret))
def t37:DFunc:={ntmps:=115,results:=[(.cell 4 (some 6)),.t 5],mode:=.frz,body :=
 (oQ [oW 2 (.box 29 6 (.t 0)),oW 3 (.box 58 7 (.t 1)),oW 4 (.alloc 29 6 (.agg [.int .i64 0,.nsl,.nsl,.nsl,.nsl,.nsl])),oW 5 (.move (oB false))]
 (oQ [oL 8 6 2,oA 9 0 3,oL 10 2 9,oW 11 (.call (oF 24) [.t 8,.t 10]),oM 6 11]
 (.seq (.seq (.draw [oRM 12 6,oR 13 (.arith .lss (.t 12) (oI 0)),oRM 14 13,rL 15 6 2 14 false,rA 16 0 3 14 false,rL 17 2 16 14 false,rA 18 2 3 14 false,rL 19 2 18 14 false,gW 20 (.call (oF 119) [.t 15,.t 17,.t 19]) 14 false,⟨(some 21),.arith .geq (.t 20) (oI 0),(some (14,false)),.read,1,false⟩,nK 22 (.pick (.t 14) (oB true) (.t 21)) .read 1,nK 23 (.move (.t 22)) .read 1,⟨(some 24),.fieldAddr 5 (.t 3),(some (23,false)),.read,1,false⟩,⟨(some 25),.load none (.t 24),(some (23,false)),.read,1,false⟩,⟨(some 26),.arith .neq (.t 25) (oI (-1)),(some (23,false)),.read,1,false⟩,⟨(some 27),.move (.t 26),(some (23,false)),.read,1,false⟩,⟨(some 28),.fieldAddr 5 (.t 3),(some (27,true)),.read,1,false⟩,⟨(some 29),.load none (.t 28),(some (27,true)),.read,1,false⟩,⟨(some 30),.fieldAddr 2 (.t 2),(some (27,true)),.read,1,false⟩,⟨(some 31),.load none (.t 30),(some (27,true)),.read,1,false⟩,⟨(some 32),.move (.t 6),(some (27,true)),.read,1,false⟩,⟨(some 33),.indexAddr 4 (.t 31) (.t 32),(some (27,true)),.read,1,false⟩,⟨(some 34),.fieldAddr 3 (.t 33),(some (27,true)),.read,1,false⟩,⟨(some 35),.load none (.t 34),(some (27,true)),.read,1,false⟩,⟨(some 36),.arith .eql (.t 29) (.t 35),(some (27,true)),.read,1,false⟩,⟨(some 37),.pick (.t 27) (.t 36) (oB false),(some (23,false)),.read,1,false⟩,nK 38 (.pick (.t 23) (oB true) (.t 37)) .read 1])
 (.cond (.t 38) (oQ [oL 39 6 2,oS 6 4 39,oW 5 (.move (oB false))]
 .ret) .skip))
 (oQ [oA 40 2 2,oD 41 40,oM 42 6,oW 43 (.indexAddr 4 (.t 41) (.t 42)),oA 44 3 43,oD 45 44,oW 46 (.arith .neq (.t 45) (oI (-1))),oM 47 46,gL 48 6 2 47 true,gA 49 0 3 47 true,gL 50 2 49 47 true,gA 51 4 3 47 true,gD 52 51 47 true,gW 53 (.call (oF 36) [.t 48,.t 50,.t 52]) 47 true,gW 54 (.un .not (.t 53)) 47 true,oW 55 (.pick (.t 47) (.t 54) (oB false)),oA 56 6 3,oS 1 56 55]
 (oQ [oW 7 (.move (oI 0))]
 (.seq (.block 0 (.loop t37l0))
 t37k0))))))}
theorem c37:compFunc Tryz.prog Tryz.f37 .frz=some t37:=by kernel_rfl
def t38l0:DCode :=
 (oQ [oW 59 (.arith .lss (.t 58) (.t 57))]
 (.seq (.cond (.t 59) .skip (.exit 0))
 (.seq (.block 1 (oQ [oM 60 58,oM 14 60]
 (oQ [oA 61 4 4,oD 62 61,oM 63 14,oW 64 (.indexAddr 7 (.t 62) (.t 63)),oL 65 7 64,oW 15 (.alloc 58 7 (.agg [.int .i64 0,.int .i64 0,.int .i64 0,.int .i64 0,.nsl,.int .i64 0,.bool false])),oS 7 15 65]
 (oQ [oA 66 0 15,oL 67 2 66,oL 68 2 5,oW 69 (.eqa false [1,1] (.t 67) (.t 68)),oM 70 69,gA 71 6 15 70 true,gD 72 71 70 true,gW 73 (.un .not (.t 72)) 70 true,oW 74 (.pick (.t 70) (.t 73) (oB false)),oM 75 74,gL 76 6 4 75 true,gL 77 2 5 75 true,gA 78 4 15 75 true,gD 79 78 75 true,gW 80 (.call (oF 36) [.t 76,.t 77,.t 79]) 75 true,gW 81 (.un .not (.t 80)) 75 true,oW 82 (.pick (.t 75) (.t 81) (oB false))]
 (.cond (.t 82) (oQ [oW 83 (.buildSlice 58 7 (.agg [.int .i64 0,.int .i64 0,.int .i64 0,.int .i64 0,.nsl,.int .i64 0,.bool false]) 0 []),oA 84 4 4,oD 85 84,oW 86 (.append 58 7 72 (.t 83) (.t 85)),oA 87 4 4,oS 1 87 86]
 (oQ [oA 88 4 4,oD 89 88,oM 90 14,oW 91 (.indexAddr 7 (.t 89) (.t 90)),oA 92 6 91,oZ (.store 1 (.t 92) (oB true))]
 (.region [oM 93 13,oA 94 4 4,oD 95 94,oM 96 14,oW 97 (.indexAddr 7 (.t 95) (.t 96)),oL 98 7 97,oW 99 (.buildSlice 58 7 (.agg [.int .i64 0,.int .i64 0,.int .i64 0,.int .i64 0,.nsl,.int .i64 0,.bool false]) 1 [(0,.t 98)]),oW 100 (.append 58 7 72 (.t 93) (.t 99)),oM 13 100]))) .skip)))))
 (.region [oW 101 (.arith .add (.t 58) (oI 1)),oM 58 101]))))
def t38k0:DCode :=
 (oQ [oL 102 6 4,oM 103 13,oS 6 8 102,oM 9 103,oW 10 (.move (oB true))]
 .ret)
def t38:DFunc:={ntmps:=104,results:=[(.cell 8 (some 6)),.t 9,.t 10],mode:=.frz,body :=
 (oQ [oW 4 (.box 29 6 (.t 0)),oW 5 (.box 37 2 (.t 1)),oW 6 (.box 37 2 (.t 2)),oW 8 (.alloc 29 6 (.agg [.int .i64 0,.nsl,.nsl,.nsl,.nsl,.nsl])),oW 9 (.move (.c .nsl)),oW 10 (.move (oB false))]
 (oQ [oL 16 6 4,oL 17 2 5,oL 18 2 6,oW 19 (.call (oF 119) [.t 16,.t 17,.t 18]),oM 11 19]
 (.seq (oQ [oM 20 11,oW 21 (.arith .lss (.t 20) (oI 0)),oM 22 21,gA 23 4 4 22 false,gD 24 23 22 false,gM 25 11 22 false,gW 26 (.indexAddr 7 (.t 24) (.t 25)) 22 false,gA 27 5 26 22 false,gD 28 27 22 false,gM 29 3 22 false,gW 30 (.arith .neq (.t 28) (.t 29)) 22 false,oW 31 (.pick (.t 22) (oB true) (.t 30))]
 (.cond (.t 31) (oQ [oL 32 6 4,oS 6 8 32,oW 9 (.move (.c .nsl)),oW 10 (.move (oB false))]
 .ret) .skip))
 (oQ [oA 33 4 4,oD 34 33,oM 35 11,oW 36 (.indexAddr 7 (.t 34) (.t 35)),oA 37 6 36,oD 38 37,oM 12 38]
 (.seq (.draw [oRA 40 4 4,oRD 41 40,oRM 42 11,oR 43 (.sliceSl 7 (.t 41) none (some (.t 42))),nK 39 (.buildSlice 58 7 (.agg [.int .i64 0,.int .i64 0,.int .i64 0,.int .i64 0,.nsl,.int .i64 0,.bool false]) 0 []) .create 0,nK 44 (.append 58 7 72 (.t 39) (.t 43)) .create 0,oRA 45 4 4,oRD 46 45,oRM 47 11,oR 48 (.arith .add (.t 47) (oI 1)),oR 49 (.sliceSl 7 (.t 46) (some (.t 48)) none),nK 50 (.append 58 7 72 (.t 44) (.t 49)) .write 2,nK 51 (.fieldAddr 4 (.t 4)) .read 3,⟨none,.store 1 (.t 51) (.t 50),none,.write,3,false⟩])
 (.seq (oQ [oM 52 12,oW 53 (.un .not (.t 52))]
 (.cond (.t 53) (oQ [oL 54 6 4,oS 6 8 54,oW 9 (.move (.c .nsl)),oW 10 (.move (oB false))]
 .ret) .skip))
 (oQ [oW 13 (.move (.c .nsl))]
 (.seq (oQ [oA 55 4 4,oD 56 55,oW 57 (.len 1 (.t 56)),oW 58 (.move (oI 0))]
 (.block 0 (.loop t38l0)))
 t38k0))))))))}
theorem c38:compFunc Tryz.prog Tryz.f38 .frz=some t38:=by kernel_rfl
def t39l0:DCode :=
 (oQ [oW 14 (.arith .lss (.t 13) (.t 12))]
 (.seq (.cond (.t 14) .skip (.exit 0))
 (.seq (.block 1 (oQ [oM 15 13,oM 5 15]
 (.seq (.draw [oRM 16 0,oRM 17 5,oR 18 (.indexAddr 7 (.t 16) (.t 17)),oRA 19 0 18,oRL 20 2 19,oRM 21 1,oRM 22 5,oR 23 (.indexAddr 7 (.t 21) (.t 22)),oRA 24 0 23,oRL 25 2 24,oR 26 (.eqa true [1,1] (.t 20) (.t 25)),oRM 27 26,rM 28 0 27 false,rM 29 5 27 false,rW 30 (.indexAddr 7 (.t 28) (.t 29)) 27 false,rA 31 2 30 27 false,rL 32 2 31 27 false,rM 33 1 27 false,rM 34 5 27 false,rW 35 (.indexAddr 7 (.t 33) (.t 34)) 27 false,rA 36 2 35 27 false,rL 37 2 36 27 false,rW 38 (.eqa true [1,1] (.t 32) (.t 37)) 27 false,oR 39 (.pick (.t 27) (oB true) (.t 38)),oRM 40 39,rM 41 0 40 false,rM 42 5 40 false,rW 43 (.indexAddr 7 (.t 41) (.t 42)) 40 false,rA 44 5 43 40 false,rD 45 44 40 false,rM 46 1 40 false,rM 47 5 40 false,rW 48 (.indexAddr 7 (.t 46) (.t 47)) 40 false,rA 49 5 48 40 false,rD 50 49 40 false,rW 51 (.arith .neq (.t 45) (.t 50)) 40 false,oR 52 (.pick (.t 40) (oB true) (.t 51)),oRM 53 52,rM 54 0 53 false,rM 55 5 53 false,rW 56 (.indexAddr 7 (.t 54) (.t 55)) 53 false,rA 57 6 56 53 false,rD 58 57 53 false,rM 59 1 53 false,rM 60 5 53 false,rW 61 (.indexAddr 7 (.t 59) (.t 60)) 53 false,rA 62 6 61 53 false,rD 63 62 53 false,rW 64 (.eqb true (.t 58) (.t 63)) 53 false,oR 65 (.pick (.t 53) (oB true) (.t 64)),oRM 66 65,rM 67 0 66 false,rM 68 5 66 false,rW 69 (.indexAddr 7 (.t 67) (.t 68)) 66 false,rA 70 4 69 66 false,rD 71 70 66 false,rM 72 1 66 false,rM 73 5 66 false,rW 74 (.indexAddr 7 (.t 72) (.t 73)) 66 false,rA 75 4 74 66 false,rD 76 75 66 false,gW 77 (.call (oF 48) [.t 71,.t 76]) 66 false,⟨(some 78),.un .not (.t 77),(some (66,false)),.read,1,false⟩,nK 79 (.pick (.t 66) (oB true) (.t 78)) .read 1])
 (.cond (.t 79) (oQ [oW 4 (.move (oB false))]
 .ret) .skip))))
 (.region [oW 80 (.arith .add (.t 13) (oI 1)),oM 13 80]))))
def t39k0:DCode :=
 (oQ [oW 4 (.move (oB true))]
 .ret)
def t39:DFunc:={ntmps:=81,results:=[.t 4],mode:=.pure,body :=
 (oQ [oW 4 (.move (oB false))]
 (.seq (oQ [oM 6 0,oW 7 (.len 1 (.t 6)),oM 8 1,oW 9 (.len 1 (.t 8)),oW 10 (.arith .neq (.t 7) (.t 9))]
 (.cond (.t 10) (oQ [oW 4 (.move (oB false))]
 .ret) .skip))
 (.seq (oQ [oM 11 0,oW 12 (.len 1 (.t 11)),oW 13 (.move (oI 0))]
 (.block 0 (.loop t39l0)))
 t39k0)))}
theorem c39:compFunc Tryz.prog Tryz.f39 .pure=some t39:=by kernel_rfl
def t40l0:DCode :=
 (oQ [oW 12 (.arith .lss (.t 11) (.t 10))]
 (.seq (.cond (.t 12) .skip (.exit 0))
 (.seq (.block 1 (oQ [oW 13 (.indexAddr 7 (.t 9) (.t 11)),oL 14 7 13,oW 7 (.alloc 58 7 (.agg [.int .i64 0,.int .i64 0,.int .i64 0,.int .i64 0,.nsl,.int .i64 0,.bool false])),oS 7 7 14]
 (oQ [oA 15 0 7,oL 16 2 15,oL 17 2 3,oW 18 (.eqa false [1,1] (.t 16) (.t 17))]
 (.cond (.t 18) (.region [oM 19 5,oL 20 7 7,oW 21 (.buildSlice 58 7 (.agg [.int .i64 0,.int .i64 0,.int .i64 0,.int .i64 0,.nsl,.int .i64 0,.bool false]) 1 [(0,.t 20)]),oW 22 (.append 58 7 72 (.t 19) (.t 21)),oM 5 22]) .skip))))
 (.region [oW 23 (.arith .add (.t 11) (oI 1)),oM 11 23]))))
def t40k0:DCode :=
 (oQ [oM 24 5,oM 4 24]
 .ret)
def t40:DFunc:={ntmps:=25,results:=[.t 4],mode:=.pure,body :=
 (oQ [oW 2 (.box 29 6 (.t 0)),oW 3 (.box 37 2 (.t 1)),oW 4 (.move (.c .nsl))]
 (oQ [oW 5 (.move (.c .nsl))]
 (.seq (oQ [oA 8 4 2,oD 9 8,oW 10 (.len 1 (.t 9)),oW 11 (.move (oI 0))]
 (.block 0 (.loop t40l0)))
 t40k0)))}
theorem c40:compFunc Tryz.prog Tryz.f40 .pure=some t40:=by kernel_rfl
def t41l0:DCode :=
 (oQ [oW 11 (.arith .lss (.t 10) (.t 9))]
 (.seq (.cond (.t 11) .skip (.exit 0))
 (.seq (.block 1 (oQ [oW 12 (.indexAddr 7 (.t 8) (.t 10)),oL 13 7 12,oW 4 (.alloc 58 7 (.agg [.int .i64 0,.int .i64 0,.int .i64 0,.int .i64 0,.nsl,.int .i64 0,.bool false])),oS 7 4 13]
 (oQ [oL 15 6 1,oA 16 0 4,oL 17 2 16,oW 18 (.call (oF 23) [.t 15,.t 17]),oM 14 18,oX 19 14 0,oX 20 14 1,oW 5 (.alloc 42 4 (.agg [.int .i64 0,.int .i64 0,.nsl,.int .i64 0])),oS 4 5 19,oM 6 20]
 (oQ [oA 21 6 4,oD 22 21,oW 23 (.un .not (.t 22)),oM 24 23,gA 25 3 5 24 true,gD 26 25 24 true,gW 27 (.arith .neq (.t 26) (oI (-1))) 24 true,oW 28 (.pick (.t 24) (.t 27) (oB false)),oM 29 28,gL 30 6 1 29 true,gA 31 0 4 29 true,gL 32 2 31 29 true,gA 33 4 4 29 true,gD 34 33 29 true,gW 35 (.call (oF 35) [.t 30,.t 32,.t 34]) 29 true,gW 36 (.un .not (.t 35)) 29 true,oW 37 (.pick (.t 29) (.t 36) (oB false))]
 (.cond (.t 37) (oQ [oW 2 (.move (oB false))]
 .ret) .skip)))))
 (.region [oW 38 (.arith .add (.t 10) (oI 1)),oM 10 38]))))
def t41k0:DCode :=
 (oQ [oW 2 (.move (oB true))]
 .ret)
def t41:DFunc:={ntmps:=39,results:=[.t 2],mode:=.pure,body :=
 (oQ [oW 1 (.box 29 6 (.t 0)),oW 2 (.move (oB false))]
 (.seq (oQ [oA 7 4 1,oD 8 7,oW 9 (.len 1 (.t 8)),oW 10 (.move (oI 0))]
 (.block 0 (.loop t41l0)))
 t41k0))}
theorem c41:compFunc Tryz.prog Tryz.f41 .pure=some t41:=by kernel_rfl
def t46l0:DCode :=
 (.seq (.seq (.draw [oRA 15 5 3,oRD 16 15,oRM 14 8,oR 17 (.len 1 (.t 16)),oR 18 (.arith .lss (.t 14) (.t 17)),oRM 19 18,rA 20 5 3 19 true,rD 21 20 19 true,rM 22 8 19 true,rW 23 (.indexAddr 3 (.t 21) (.t 22)) 19 true,rA 24 0 23 19 true,rL 25 2 24 19 true,rL 26 2 4 19 true,gW 27 (.call (oF 76) [.t 25,.t 26]) 19 true,nK 28 (.pick (.t 19) (.t 27) (oB false)) .read 1])
 (.cond (.t 28) .skip (.exit 0)))
 (.block 1 (.region [oM 29 8,oW 30 (.arith .add (.t 29) (oI 1)),oM 8 30])))
def t46l1:DCode :=
 (oQ [oW 68 (.arith .lss (.t 67) (.t 66))]
 (.seq (.cond (.t 68) .skip (.exit 2))
 (.seq (.block 3 (oQ [oW 69 (.indexAddr 4 (.t 65) (.t 67)),oL 70 4 69,oW 11 (.alloc 42 4 (.agg [.int .i64 0,.int .i64 0,.nsl,.int .i64 0])),oS 4 11 70]
 (.seq (oQ [oM 71 2,oA 72 2 11,oD 73 72,oW 74 (.call (oF 121) [.t 71,.t 73]),oW 75 (.un .not (.t 74))]
 (.cond (.t 75) (.exit 3) .skip))
 (oQ [oA 76 0 11,oL 77 2 76,oL 78 2 4,oM 79 2,oW 80 (.build [.int .i64 0,.int .i64 0,.int .i64 0,.int .i64 0,.nsl,.int .i64 0,.bool false] [(0,2,.t 77),(2,2,.t 78),(4,1,.t 79),(5,1,(oI (-1)))]),oW 12 (.alloc 58 7 (.agg [.int .i64 0,.int .i64 0,.int .i64 0,.int .i64 0,.nsl,.int .i64 0,.bool false])),oS 7 12 80]
 (oQ [oW 13 (.move (oB false))]
 (oQ [oL 82 6 3,oL 83 7 12,oW 84 (.call (oF 37) [.t 82,.t 83]),oM 81 84,oX 85 81 0,oX 86 81 1,oS 6 3 85,oM 13 86]
 (oQ [oM 87 13]
 (.cond (.t 87) (.draw [oRA 89 3 11,oRD 90 89,oRL 91 7 12,nK 92 (.call (oF 122) [.t 91]) .create 0,oRM 88 9,nK 93 (.build [.int .i64 0,.int .i64 0,.int .i64 0,.int .i64 0,.int .i64 0,.int .i64 0,.nsl,.nsl] [(0,1,.t 90),(1,7,.t 92)]) .read 1,nK 94 (.buildSlice 86 8 (.agg [.int .i64 0,.int .i64 0,.int .i64 0,.int .i64 0,.int .i64 0,.int .i64 0,.nsl,.nsl]) 1 [(0,.t 93)]) .create 0,nK 95 (.append 86 8 96 (.t 88) (.t 94)) .write 2,nK 9 (.move (.t 95)) .read 3]) .skip))))))))
 (.region [oW 96 (.arith .add (.t 67) (oI 1)),oM 67 96]))))
def t46k0:DCode :=
 (oQ [oL 97 6 3,oM 98 9,oS 6 6 97,oM 7 98]
 .ret)
def t46k1:DCode :=
 (.seq (.seq (.draw [oRA 32 5 3,oRD 33 32,oRM 31 8,oR 34 (.len 1 (.t 33)),oR 35 (.arith .lss (.t 31) (.t 34)),oRM 36 35,rA 37 5 3 36 true,rD 38 37 36 true,rM 39 8 36 true,rW 40 (.indexAddr 3 (.t 38) (.t 39)) 36 true,rA 41 0 40 36 true,rL 42 2 41 36 true,rL 43 2 4 36 true,rW 44 (.eqa false [1,1] (.t 42) (.t 43)) 36 true,oR 45 (.pick (.t 36) (.t 44) (oB false))])
 (.cond (.t 45) (oQ [oL 46 6 3,oS 6 6 46,oW 7 (.move (.c .nsl))]
 .ret) .skip))
 (.seq (.draw [oRA 48 5 3,oRD 49 48,oRM 50 8,oR 51 (.sliceSl 3 (.t 49) none (some (.t 50))),nK 47 (.buildSlice 60 3 (.agg [.int .i64 0,.int .i64 0,.nsl]) 0 []) .create 0,nK 52 (.append 60 3 40 (.t 47) (.t 51)) .create 0,oRL 53 2 4,oRM 54 2,oR 55 (.build [.int .i64 0,.int .i64 0,.nsl] [(0,2,.t 53),(2,1,.t 54)]),nK 56 (.buildSlice 60 3 (.agg [.int .i64 0,.int .i64 0,.nsl]) 1 [(0,.t 55)]) .create 0,nK 57 (.append 60 3 40 (.t 52) (.t 56)) .create 0,oRA 58 5 3,oRD 59 58,oRM 60 8,oR 61 (.sliceSl 3 (.t 59) (some (.t 60)) none),nK 62 (.append 60 3 40 (.t 57) (.t 61)) .write 4,nK 63 (.fieldAddr 5 (.t 3)) .read 5,⟨none,.store 1 (.t 63) (.t 62),none,.write,5,false⟩])
 (oQ [oW 9 (.move (.c .nsl))]
 (.seq (oQ [oA 64 2 3,oD 65 64,oW 66 (.len 1 (.t 65)),oW 67 (.move (oI 0))]
 (.block 2 (.loop t46l1)))
 t46k0))))
def t46:DFunc:={ntmps:=99,results:=[(.cell 6 (some 6)),.t 7],mode:=.frz,body :=
 (oQ [oW 3 (.box 29 6 (.t 0)),oW 4 (.box 37 2 (.t 1)),oW 6 (.alloc 29 6 (.agg [.int .i64 0,.nsl,.nsl,.nsl,.nsl,.nsl])),oW 7 (.move (.c .nsl))]
 (oQ [oW 8 (.move (oI 0))]
 (.seq (.block 0 (.loop t46l0))
 t46k1)))}
theorem c46:compFunc Tryz.prog Tryz.f46 .frz=some t46:=by kernel_rfl
def t47:DFunc:={ntmps:=14,results:=[.t 4],mode:=.pure,body :=
 (oQ [oW 4 (.move (oB false))]
 (oQ [oM 8 0,oM 9 1,oW 10 (.call (oF 123) [.t 8,.t 9]),oM 7 10,oX 11 7 0,oX 12 7 1,oM 5 11,oM 6 12]
 (oQ [oM 13 6,oM 4 13]
 .ret)))}
theorem c47:compFunc Tryz.prog Tryz.f47 .pure=some t47:=by kernel_rfl
def t48l0:DCode :=
 (.seq (oQ [oM 11 5,oM 12 0,oW 13 (.len 1 (.t 12)),oW 14 (.arith .lss (.t 11) (.t 13))]
 (.cond (.t 14) .skip (.exit 0)))
 (.seq (.block 1 (.seq (.draw [oRM 17 0,oRM 18 5,oR 19 (.indexAddr 5 (.t 17) (.t 18)),oRL 20 5 19,oRM 21 1,oRM 22 5,oR 23 (.indexAddr 5 (.t 21) (.t 22)),oRL 24 5 23,oR 25 (.eqa true [2,1,1,1,2] (.t 20) (.t 24))])
 (.cond (.t 25) (oQ [oW 4 (.move (oB false))]
 .ret) .skip)))
 (.region [oM 15 5,oW 16 (.arith .add (.t 15) (oI 1)),oM 5 16])))
def t48k0:DCode :=
 (oQ [oW 4 (.move (oB true))]
 .ret)
def t48:DFunc:={ntmps:=26,results:=[.t 4],mode:=.pure,body :=
 (oQ [oW 4 (.move (oB false))]
 (.seq (oQ [oM 6 0,oW 7 (.len 1 (.t 6)),oM 8 1,oW 9 (.len 1 (.t 8)),oW 10 (.arith .neq (.t 7) (.t 9))]
 (.cond (.t 10) (oQ [oW 4 (.move (oB false))]
 .ret) .skip))
 (.seq (oQ [oW 5 (.move (oI 0))]
 (.block 0 (.loop t48l0)))
 t48k0)))}
theorem c48:compFunc Tryz.prog Tryz.f48 .pure=some t48:=by kernel_rfl
def t50l0:DCode :=
 (oQ [oW 37 (.arith .lss (.t 36) (.t 35))]
 (.seq (.cond (.t 37) .skip (.exit 0))
 (.seq (.block 1 (oQ [oW 38 (.indexAddr 4 (.t 34) (.t 36)),oL 39 4 38,oW 12 (.alloc 42 4 (.agg [.int .i64 0,.int .i64 0,.nsl,.int .i64 0])),oS 4 12 39]
 (.seq (oQ [oM 40 2,oA 41 2 12,oD 42 41,oW 43 (.call (oF 47) [.t 40,.t 42]),oW 44 (.un .not (.t 43))]
 (.cond (.t 44) (.exit 1) .skip))
 (oQ [oL 46 6 3,oA 47 0 12,oL 48 2 47,oL 49 2 4,oM 50 2,oW 51 (.build [.int .i64 0,.int .i64 0,.int .i64 0,.int .i64 0,.nsl,.int .i64 0,.bool false] [(0,2,.t 48),(2,2,.t 49),(4,1,.t 50),(5,1,(oI (-1)))]),oW 52 (.call (oF 127) [.t 46,.t 51]),oM 45 52,oX 53 45 0,oX 54 45 1,oW 13 (.alloc 29 6 (.agg [.int .i64 0,.nsl,.nsl,.nsl,.nsl,.nsl])),oS 6 13 53,oM 14 54]
 (.draw [oRL 55 6 13,oRM 56 10,oRM 57 14,nK 58 (.append 86 8 96 (.t 56) (.t 57)) .create 0,⟨none,.store 6 (.t 3) (.t 55),none,.write,1,false⟩,nK 10 (.move (.t 58)) .read 2])))))
 (.region [oW 59 (.arith .add (.t 36) (oI 1)),oM 36 59]))))
def t50k0:DCode :=
 (oQ [oL 60 6 3,oM 61 10,oS 6 6 60,oM 7 61]
 .ret)
def t50:DFunc:={ntmps:=62,results:=[(.cell 6 (some 6)),.t 7],mode:=.frz,body :=
 (oQ [oW 3 (.box 29 6 (.t 0)),oW 4 (.box 37 2 (.t 1)),oW 6 (.alloc 29 6 (.agg [.int .i64 0,.nsl,.nsl,.nsl,.nsl,.nsl])),oW 7 (.move (.c .nsl))]
 (oQ [oL 16 6 3,oL 17 2 4,oW 18 (.call (oF 124) [.t 16,.t 17]),oM 15 18,oX 19 15 0,oX 20 15 1,oM 8 19,oM 9 20]
 (.seq (oQ [oM 21 9]
 (.cond (.t 21) (oQ [oL 22 6 3,oS 6 6 22,oW 7 (.move (.c .nsl))]
 .ret) .skip))
 (.seq (.draw [oRA 23 5 3,oRD 24 23,nK 25 (.call (oF 126) [.t 24]) .create 0,oRL 27 2 4,oRM 26 8,oRM 28 2,oR 29 (.build [.int .i64 0,.int .i64 0,.nsl] [(0,2,.t 27),(2,1,.t 28)]),nK 30 (.buildSlice 60 3 (.agg [.int .i64 0,.int .i64 0,.nsl]) 1 [(0,.t 29)]) .create 0,nK 31 (.call (oF 125) [.t 25,.t 26,.t 30]) .write 2,nK 32 (.fieldAddr 5 (.t 3)) .read 3,⟨none,.store 1 (.t 32) (.t 31),none,.write,3,false⟩])
 (oQ [oW 10 (.move (.c .nsl))]
 (.seq (oQ [oA 33 2 3,oD 34 33,oW 35 (.len 1 (.t 34)),oW 36 (.move (oI 0))]
 (.block 0 (.loop t50l0)))
 t50k0))))))}
theorem c50:compFunc Tryz.prog Tryz.f50 .frz=some t50:=by kernel_rfl
def t51l0:DCode :=
 (oQ [oW 34 (.arith .lss (.t 33) (.t 32))]
 (.seq (.cond (.t 34) .skip (.exit 0))
 (.seq (.block 1 (oQ [oW 35 (.indexAddr 4 (.t 31) (.t 33)),oL 36 4 35,oW 10 (.alloc 42 4 (.agg [.int .i64 0,.int .i64 0,.nsl,.int .i64 0])),oS 4 10 36]
 (oQ [oL 38 6 2,oA 39 0 10,oL 40 2 39,oL 41 2 3,oW 42 (.call (oF 129) [.t 38,.t 40,.t 41,(oI (-1))]),oM 37 42,oX 43 37 0,oX 44 37 1,oW 11 (.alloc 29 6 (.agg [.int .i64 0,.nsl,.nsl,.nsl,.nsl,.nsl])),oS 6 11 43,oM 12 44]
 (.draw [oRL 45 6 11,oRM 46 8,oRM 47 12,nK 48 (.append 86 8 96 (.t 46) (.t 47)) .create 0,⟨none,.store 6 (.t 2) (.t 45),none,.write,1,false⟩,nK 8 (.move (.t 48)) .read 2]))))
 (.region [oW 49 (.arith .add (.t 33) (oI 1)),oM 33 49]))))
def t51k0:DCode :=
 (oQ [oL 50 6 2,oM 51 8,oS 6 4 50,oM 5 51]
 .ret)
def t51:DFunc:={ntmps:=52,results:=[(.cell 4 (some 6)),.t 5],mode:=.frz,body :=
 (oQ [oW 2 (.box 29 6 (.t 0)),oW 3 (.box 37 2 (.t 1)),oW 4 (.alloc 29 6 (.agg [.int .i64 0,.nsl,.nsl,.nsl,.nsl,.nsl])),oW 5 (.move (.c .nsl))]
 (oQ [oL 14 6 2,oL 15 2 3,oW 16 (.call (oF 124) [.t 14,.t 15]),oM 13 16,oX 17 13 0,oX 18 13 1,oM 6 17,oM 7 18]
 (.seq (oQ [oM 19 7,oW 20 (.un .not (.t 19))]
 (.cond (.t 20) (oQ [oL 21 6 2,oS 6 4 21,oW 5 (.move (.c .nsl))]
 .ret) .skip))
 (oQ [oA 22 5 2,oD 23 22,oW 24 (.call (oF 126) [.t 23]),oM 25 6,oM 26 6,oW 27 (.arith .add (.t 26) (oI 1)),oW 28 (.call (oF 128) [.t 24,.t 25,.t 27]),oA 29 5 2,oS 1 29 28]
 (oQ [oW 8 (.move (.c .nsl))]
 (.seq (oQ [oA 30 2 2,oD 31 30,oW 32 (.len 1 (.t 31)),oW 33 (.move (oI 0))]
 (.block 0 (.loop t51l0)))
 t51k0))))))}
theorem c51:compFunc Tryz.prog Tryz.f51 .frz=some t51:=by kernel_rfl
def t52:DFunc:={ntmps:=20,results:=[(.cell 6 (some 6)),.t 7],mode:=.frz,body :=
 (oQ [oW 3 (.box 29 6 (.t 0)),oW 5 (.box 84 7 (.t 2)),oW 6 (.alloc 29 6 (.agg [.int .i64 0,.nsl,.nsl,.nsl,.nsl,.nsl])),oW 7 (.move (.c .nsl))]
 (oQ [oL 8 6 3,oA 9 1 5,oL 10 2 9,oA 11 3 5,oL 12 2 11,oA 13 5 5,oD 14 13,oM 15 1,oW 16 (.build [.int .i64 0,.int .i64 0,.int .i64 0,.int .i64 0,.nsl,.int .i64 0,.bool false] [(0,2,.t 10),(2,2,.t 12),(4,1,.t 14),(5,1,.t 15)]),oW 17 (.call (oF 127) [.t 8,.t 16]),oX 18 17 0,oX 19 17 1,oS 6 6 18,oM 7 19]
 .ret))}
theorem c52:compFunc Tryz.prog Tryz.f52 .frz=some t52:=by kernel_rfl
def t53:DFunc:={ntmps:=17,results:=[(.cell 6 (some 6)),.t 7],mode:=.frz,body :=
 (oQ [oW 3 (.box 29 6 (.t 0)),oW 5 (.box 84 7 (.t 2)),oW 6 (.alloc 29 6 (.agg [.int .i64 0,.nsl,.nsl,.nsl,.nsl,.nsl])),oW 7 (.move (.c .nsl))]
 (oQ [oL 8 6 3,oA 9 1 5,oL 10 2 9,oA 11 3 5,oL 12 2 11,oM 13 1,oW 14 (.call (oF 129) [.t 8,.t 10,.t 12,.t 13]),oX 15 14 0,oX 16 14 1,oS 6 6 15,oM 7 16]
 .ret))}
theorem c53:compFunc Tryz.prog Tryz.f53 .frz=some t53:=by kernel_rfl
def t54l0:DCode :=
 (oQ [oW 16 (.arith .lss (.t 15) (.t 14))]
 (.seq (.cond (.t 16) .skip (.exit 0))
 (.seq (.block 1 (oQ [oW 17 (.indexAddr 5 (.t 13) (.t 15)),oL 18 5 17,oW 7 (.alloc 62 5 (.agg [.str [],.int .i64 0,.int .i64 0,.int .i64 0,.str []])),oS 5 7 18]
 (.region [oM 19 5,oA 20 0 7,oD 21 20,oL 22 5 7,oZ (.mapUpdate (.prim 2) (.t 19) (.t 21) (.t 22))])))
 (.region [oW 23 (.arith .add (.t 15) (oI 1)),oM 15 23]))))
def t54l1:DCode :=
 (oQ [oW 27 (.arith .lss (.t 26) (.t 25))]
 (.seq (.cond (.t 27) .skip (.exit 2))
 (.seq (.block 3 (oQ [oW 28 (.indexAddr 5 (.t 24) (.t 26)),oL 29 5 28,oW 9 (.alloc 62 5 (.agg [.str [],.int .i64 0,.int .i64 0,.int .i64 0,.str []])),oS 5 9 29]
 (oQ [oM 31 5,oA 32 0 9,oD 33 32,oW 34 (.lookup (.prim 2) (.agg [.str [],.int .i64 0,.int .i64 0,.int .i64 0,.str []]) true (.t 31) (.t 33)),oM 30 34,oX 35 30 0,oX 36 30 1,oW 10 (.alloc 62 5 (.agg [.str [],.int .i64 0,.int .i64 0,.int .i64 0,.str []])),oS 5 10 35,oM 11 36]
 (oQ [oM 37 11,oW 38 (.un .not (.t 37)),oM 39 38,gL 40 5 9 39 false,gL 41 5 10 39 false,gW 42 (.call (oF 130) [.t 40,.t 41]) 39 false,gW 43 (.un .not (.t 42)) 39 false,oW 44 (.pick (.t 39) (oB true) (.t 43))]
 (.cond (.t 44) (oQ [oW 4 (.move (oB false))]
 .ret) .skip)))))
 (.region [oW 45 (.arith .add (.t 26) (oI 1)),oM 26 45]))))
def t54k0:DCode :=
 (oQ [oW 4 (.move (oB true))]
 .ret)
def t54k1:DCode :=
 (.seq (oQ [oM 24 0,oW 25 (.len 1 (.t 24)),oW 26 (.move (oI 0))]
 (.block 2 (.loop t54l1)))
 t54k0)
def t54:DFunc:={ntmps:=46,results:=[.t 4],mode:=.pure,body :=
 (oQ [oW 4 (.move (oB false))]
 (oQ [oW 12 (.makeMap),oM 5 12]
 (.seq (oQ [oM 13 1,oW 14 (.len 1 (.t 13)),oW 15 (.move (oI 0))]
 (.block 0 (.loop t54l0)))
 t54k1)))}
theorem c54:compFunc Tryz.prog Tryz.f54 .pure=some t54:=by kernel_rfl
def t55:DFunc:={ntmps:=95,results:=[.t 0],mode:=.pure,body :=
 (oQ [oW 0 (.move (oB false))]
 (oQ [oW 10 (.build [.int .i64 0,.int .i64 0] [(0,1,oI 3)]),oW 11 (.build [.int .i64 0,.int .i64 0] [(0,1,oI 4)]),oW 12 (.build [.int .i64 0,.int .i64 0] [(0,1,oI 5)]),oW 1 (.alloc 37 2 (.agg [.int .i64 0,.int .i64 0])),oW 2 (.alloc 37 2 (.agg [.int .i64 0,.int .i64 0])),oW 3 (.alloc 37 2 (.agg [.int .i64 0,.int .i64 0])),oS 2 1 10,oS 2 2 11,oS 2 3 12]
 (.seq (.draw [nK 14 (.buildSlice 3 1 (.int .i64 0) 2 [(0,oI 1),(1,oI 2)]) .create 0,nK 15 (.call (oF 15) [oI 0,.t 14]) .create 0,oRL 16 2 1,oR 17 (.build [.int .i64 0,.int .i64 0,.nsl,.int .i64 0] [(0,2,.t 16),(3,1,oI 1)]),nK 18 (.call (oF 19) [.t 15,.t 17]) .write 2,nK 13 (.move (.t 18)) .read 3,nK 19 (.extract (.t 13) 0) .read 3,nK 4 (.alloc 29 6 (.agg [.int .i64 0,.nsl,.nsl,.nsl,.nsl,.nsl])) .create 0,⟨none,.store 6 (.t 4) (.t 19),none,.write,4,false⟩,nK 20 (.extract (.t 13) 1) .read 3,nK 5 (.move (.t 20)) .read 5])
 (oQ [oL 22 6 4,oL 23 2 2,oW 24 (.call (oF 50) [.t 22,.t 23,.c .nsl]),oM 21 24,oX 25 21 0,oX 26 21 1,oS 6 4 25,oM 6 26]
 (oQ [oL 28 6 4,oL 29 2 1,oL 30 2 3,oW 31 (.build [.int .i64 0,.int .i64 0,.int .i64 0,.int .i64 0,.int .i64 0,.nsl,.nsl] [(0,1,oI 3),(1,2,.t 29),(3,2,.t 30)]),oW 32 (.call (oF 52) [.t 28,oI 2,.t 31]),oM 27 32,oX 33 27 0,oX 34 27 1,oS 6 4 33,oM 7 34]
 (oQ [oL 36 6 4,oL 37 2 2,oW 38 (.call (oF 51) [.t 36,.t 37]),oM 35 38,oX 39 35 0,oX 40 35 1,oW 8 (.alloc 29 6 (.agg [.int .i64 0,.nsl,.nsl,.nsl,.nsl,.nsl])),oS 6 8 39,oM 9 40]
 (.seq (.draw [oRM 41 6,oR 42 (.len 1 (.t 41)),oR 43 (.arith .eql (.t 42) (oI 1)),oRM 44 43,rM 45 6 44 true,rW 46 (.indexAddr 8 (.t 45) (oI 0)) 44 true,rA 47 0 46 44 true,rD 48 47 44 true,rW 49 (.arith .eql (.t 48) (oI 1)) 44 true,oR 50 (.pick (.t 44) (.t 49) (oB false)),oRM 51 50,rM 52 7 51 true,rW 53 (.len 1 (.t 52)) 51 true,rW 54 (.arith .eql (.t 53) (oI 0)) 51 true,oR 55 (.pick (.t 51) (.t 54) (oB false)),oRM 56 55,rM 57 9 56 true,rW 58 (.len 1 (.t 57)) 56 true,rW 59 (.arith .eql (.t 58) (oI 2)) 56 true,oR 60 (.pick (.t 56) (.t 59) (oB false)),oRM 61 60,rM 62 9 61 true,rW 63 (.indexAddr 8 (.t 62) (oI 0)) 61 true,rA 64 1 63 61 true,rA 65 0 64 61 true,rD 66 65 61 true,rW 67 (.arith .eql (.t 66) (oI 3)) 61 true,oR 68 (.pick (.t 61) (.t 67) (oB false)),oRM 69 68,rM 70 9 69 true,rW 71 (.indexAddr 8 (.t 70) (oI 0)) 69 true,rA 72 1 71 69 true,rA 73 3 72 69 true,rL 74 2 73 69 true,rL 75 2 3 69 true,rW 76 (.eqa false [1,1] (.t 74) (.t 75)) 69 true,oR 77 (.pick (.t 69) (.t 76) (oB false)),oRM 78 77,rM 79 9 78 true,rW 80 (.indexAddr 8 (.t 79) (oI 1)) 78 true,rA 81 1 80 78 true,rA 82 0 81 78 true,rD 83 82 78 true,rW 84 (.arith .eql (.t 83) (oI 4)) 78 true,oR 85 (.pick (.t 78) (.t 84) (oB false)),oRM 86 85,rM 87 9 86 true,rW 88 (.indexAddr 8 (.t 87) (oI 1)) 86 true,rA 89 1 88 86 true,rA 90 3 89 86 true,rL 91 2 90 86 true,rL 92 2 2 86 true,rW 93 (.eqa false [1,1] (.t 91) (.t 92)) 86 true,oR 94 (.pick (.t 86) (.t 93) (oB false)),oRM 0 94])
 .ret)))))))}
theorem c55:compFunc Tryz.prog Tryz.f55 .pure=some t55:=by kernel_rfl
def t56:DFunc:={ntmps:=9,results:=[.t 4],mode:=.pure,body :=
 (oQ [oW 2 (.box 37 2 (.t 0)),oW 3 (.box 37 2 (.t 1)),oW 4 (.move (oB false))]
 (oQ [oL 5 2 2,oL 6 2 3,oW 7 (.call (oF 101) [.t 5,.t 6]),oW 8 (.arith .lss (.t 7) (oI 0)),oM 4 8]
 .ret))}
theorem c56:compFunc Tryz.prog Tryz.f56 .pure=some t56:=by kernel_rfl
def t57:DFunc:={ntmps:=14,results:=[.t 4],mode:=.pure,body :=
 (oQ [oW 2 (.box 29 6 (.t 0)),oW 3 (.box 37 2 (.t 1)),oW 4 (.move (oB false))]
 (oQ [oL 8 6 2,oL 9 2 3,oW 10 (.call (oF 71) [.t 8,.t 9]),oM 7 10,oX 11 7 0,oX 12 7 1,oM 5 11,oM 6 12]
 (oQ [oM 13 6,oM 4 13]
 .ret)))}
theorem c57:compFunc Tryz.prog Tryz.f57 .pure=some t57:=by kernel_rfl
def t58:DFunc:={ntmps:=25,results:=[(.cell 6 (some 6)),.t 7],mode:=.frz,body :=
 (oQ [oW 3 (.box 29 6 (.t 0)),oW 5 (.box 37 2 (.t 2)),oW 6 (.alloc 29 6 (.agg [.int .i64 0,.nsl,.nsl,.nsl,.nsl,.nsl])),oW 7 (.move (.c .nsl))]
 (oQ [oL 10 6 3,oL 11 2 5,oM 12 1,oW 13 (.call (oF 22) [.t 10,.t 11,.t 12]),oM 9 13,oX 14 9 0,oX 15 9 1,oS 6 3 14,oM 8 15]
 (.seq (oQ [oM 16 8,oW 17 (.un .not (.t 16))]
 (.cond (.t 17) (oQ [oL 18 6 3,oS 6 6 18,oW 7 (.move (.c .nsl))]
 .ret) .skip))
 (.seq (.draw [oRL 19 6 3,oRL 20 6 3,oRL 22 2 5,oRM 21 1,oR 23 (.build [.int .i64 0,.int .i64 0,.int .i64 0,.int .i64 0,.int .i64 0,.nsl,.nsl] [(0,1,oI 2),(1,2,.t 22)]),nK 24 (.call (oF 131) [.t 20,.t 21,.t 23]) .create 0,⟨none,.store 6 (.t 6) (.t 19),none,.write,1,false⟩,nK 7 (.move (.t 24)) .read 2])
 .ret))))}
theorem c58:compFunc Tryz.prog Tryz.f58 .frz=some t58:=by kernel_rfl
def t59l0:DCode :=
 (oQ [oW 38 (.arith .lss (.t 37) (.t 36))]
 (.seq (.cond (.t 38) .skip (.exit 0))
 (.seq (.block 1 (oQ [oW 39 (.indexAddr 3 (.t 35) (.t 37)),oL 40 3 39,oW 13 (.alloc 60 3 (.agg [.int .i64 0,.int .i64 0,.nsl])),oS 3 13 40]
 (.seq (oQ [oA 41 2 13,oD 42 41,oM 43 3,oW 44 (.call (oF 121) [.t 42,.t 43]),oW 45 (.un .not (.t 44))]
 (.cond (.t 45) (.exit 1) .skip))
 (oQ [oL 46 2 6,oA 47 0 13,oL 48 2 47,oA 49 2 13,oD 50 49,oW 51 (.build [.int .i64 0,.int .i64 0,.int .i64 0,.int .i64 0,.nsl,.int .i64 0,.bool false] [(0,2,.t 46),(2,2,.t 48),(4,1,.t 50),(5,1,(oI (-1)))]),oW 14 (.alloc 58 7 (.agg [.int .i64 0,.int .i64 0,.int .i64 0,.int .i64 0,.nsl,.int .i64 0,.bool false])),oS 7 14 51]
 (oQ [oW 15 (.move (oB false))]
 (oQ [oL 53 6 4,oL 54 7 14,oW 55 (.call (oF 37) [.t 53,.t 54]),oM 52 55,oX 56 52 0,oX 57 52 1,oS 6 4 56,oM 15 57]
 (oQ [oM 58 15]
 (.cond (.t 58) (.region [oM 59 11,oM 60 1,oL 61 7 14,oW 62 (.call (oF 122) [.t 61]),oW 63 (.build [.int .i64 0,.int .i64 0,.int .i64 0,.int .i64 0,.int .i64 0,.int .i64 0,.nsl,.nsl] [(0,1,.t 60),(1,7,.t 62)]),oW 64 (.buildSlice 86 8 (.agg [.int .i64 0,.int .i64 0,.int .i64 0,.int .i64 0,.int .i64 0,.int .i64 0,.nsl,.nsl]) 1 [(0,.t 63)]),oW 65 (.append 86 8 96 (.t 59) (.t 64)),oM 11 65]) .skip))))))))
 (.region [oW 66 (.arith .add (.t 37) (oI 1)),oM 37 66]))))
def t59k0:DCode :=
 (oQ [oL 67 6 4,oM 68 11,oS 6 8 67,oM 9 68]
 .ret)
def t59:DFunc:={ntmps:=69,results:=[(.cell 8 (some 6)),.t 9],mode:=.frz,body :=
 (oQ [oW 4 (.box 29 6 (.t 0)),oW 6 (.box 37 2 (.t 2)),oW 8 (.alloc 29 6 (.agg [.int .i64 0,.nsl,.nsl,.nsl,.nsl,.nsl])),oW 9 (.move (.c .nsl))]
 (oQ [oL 17 6 4,oL 18 2 6,oM 19 3,oM 20 1,oW 21 (.build [.int .i64 0,.int .i64 0,.nsl,.int .i64 0] [(0,2,.t 18),(2,1,.t 19),(3,1,.t 20)]),oW 22 (.call (oF 20) [.t 17,.t 21]),oM 16 22,oX 23 16 0,oX 24 16 1,oS 6 4 23,oM 10 24]
 (.seq (oQ [oM 25 10,oW 26 (.un .not (.t 25))]
 (.cond (.t 26) (oQ [oL 27 6 4,oS 6 8 27,oW 9 (.move (.c .nsl))]
 .ret) .skip))
 (oQ [oL 28 6 4,oM 29 1,oL 30 2 6,oM 31 3,oW 32 (.build [.int .i64 0,.int .i64 0,.int .i64 0,.int .i64 0,.int .i64 0,.nsl,.nsl] [(0,1,oI 1),(1,2,.t 30),(5,1,.t 31)]),oW 33 (.call (oF 131) [.t 28,.t 29,.t 32]),oM 11 33]
 (.seq (oQ [oA 34 5 4,oD 35 34,oW 36 (.len 1 (.t 35)),oW 37 (.move (oI 0))]
 (.block 0 (.loop t59l0)))
 t59k0)))))}
theorem c59:compFunc Tryz.prog Tryz.f59 .frz=some t59:=by kernel_rfl
end Go.Dm.Tc
