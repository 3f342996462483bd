/-
The table of functions, brought into the machine's form (Tc, part 0). Written by program (wip/tools/table.lean.txt).
-/
import Derived.Test.YtfnhanajiibciaaGreatMm3
import Derived.Test.YtfnhanajiibciaaGreatRows
import Derived.KernelRfl
namespace Go.Dm.Tc
open Go.Proofs
abbrev oQ (l:List DOper) (c:DCode):DCode:=.seq (.region l) c
abbrev gW (d:Nat) (op:DOp) (g:Nat) (b:Bool):DOper:=⟨some d,op,some (g,b),.write,0,false⟩
abbrev gM (d x g:Nat) (b:Bool):DOper:=⟨some d,.move (.t x),some (g,b),.write,0,false⟩
abbrev gA (d o x g:Nat) (b:Bool):DOper:=⟨some d,.fieldAddr o (.t x),some (g,b),.write,0,false⟩
abbrev gD (d x g:Nat) (b:Bool):DOper:=⟨some d,.load none (.t x),some (g,b),.write,0,false⟩
abbrev gL (d n x g:Nat) (b:Bool):DOper:=⟨some d,.load (some n) (.t x),some (g,b),.write,0,false⟩
abbrev rW (d:Nat) (op:DOp) (g:Nat) (b:Bool):DOper:=⟨some d,op,some (g,b),.read,0,false⟩
abbrev rM (d x g:Nat) (b:Bool):DOper:=⟨some d,.move (.t x),some (g,b),.read,0,false⟩
abbrev rA (d o x g:Nat) (b:Bool):DOper:=⟨some d,.fieldAddr o (.t x),some (g,b),.read,0,false⟩
abbrev rD (d x g:Nat) (b:Bool):DOper:=⟨some d,.load none (.t x),some (g,b),.read,0,false⟩
abbrev rL (d n x g:Nat) (b:Bool):DOper:=⟨some d,.load (some n) (.t x),some (g,b),.read,0,false⟩
abbrev nK (d:Nat) (op:DOp) (k:OKind) (s:Nat):DOper:=⟨some d,op,none,k,s,false⟩
def t4s0:DCode :=
 (oQ [oL 80 6 6,oW 81 (.call (oF 27) [.t 80]),oW 82 (.un .not (.t 81)),oM 83 82,gL 84 6 6 83 true,gL 85 6 5 83 true,gW 86 (.call (oF 26) [.t 84,.t 85]) 83 true,gW 87 (.un .not (.t 86)) 83 true,oW 88 (.pick (.t 83) (.t 87) (oB false)),oM 89 88,gL 90 6 5 89 true,gL 91 6 6 89 true,gW 92 (.call (oF 26) [.t 90,.t 91]) 89 true,gW 93 (.un .not (.t 92)) 89 true,oW 94 (.pick (.t 89) (.t 93) (oB false)),oM 95 94,gW 96 (.call (oF 28) []) 95 true,oW 97 (.pick (.t 95) (.t 96) (oB false)),oM 4 97]
 .ret)
def t4:DFunc:={ntmps:=98,results:=[.t 4],mode:=.pure,body :=
 (oQ [oW 2 (.box 55 2 (.t 0)),oW 4 (.move (oB false))]
 (oQ [oL 7 2 2,oW 8 (.call (oF 29) [.t 7]),oW 5 (.alloc 29 6 (.agg [.int .i64 0,.nsl,.nsl,.nsl,.nsl,.nsl])),oS 6 5 8]
 (.seq (oQ [oL 9 6 5,oW 10 (.call (oF 27) [.t 9]),oW 11 (.un .not (.t 10)),oM 12 11,gL 13 6 5 12 false,gL 14 6 5 12 false,gW 15 (.call (oF 26) [.t 13,.t 14]) 12 false,gW 16 (.un .not (.t 15)) 12 false,oW 17 (.pick (.t 12) (oB true) (.t 16))]
 (.cond (.t 17) (oQ [oW 4 (.move (oB false))]
 .ret) .skip))
 (oQ [oL 18 6 5,oW 19 (.call (oF 17) [.t 18]),oW 6 (.alloc 29 6 (.agg [.int .i64 0,.nsl,.nsl,.nsl,.nsl,.nsl])),oS 6 6 19]
 (.seq (oQ [oM 20 1,oW 21 (.call (oF 16) [.t 20,oI 0,oI 5])]
 (.block 0 (oQ [oW 32 (.arith .eql (.t 21) (oI 0)),oM 31 32]
 (.cond (.t 31) (.draw [oRA 33 1 6,oRD 34 33,oRA 35 1 6,oRD 36 35,oR 37 (.indexAddr 1 (.t 36) (oI 0)),oRD 38 37,nK 39 (.buildSlice 3 1 (.int .i64 0) 1 [(0,.t 38)]) .create 0,nK 40 (.append 3 1 8 (.t 34) (.t 39)) .write 1,nK 41 (.fieldAddr 1 (.t 6)) .read 2,⟨none,.store 1 (.t 41) (.t 40),none,.write,2,false⟩]) (oQ [oW 43 (.arith .eql (.t 21) (oI 1)),oM 42 43]
 (.cond (.t 42) (.region [oA 44 2 6,oD 45 44,oW 46 (.build [.int .i64 0,.int .i64 0] [(0,1,oI 99)]),oW 47 (.build [.int .i64 0,.int .i64 0,.nsl,.int .i64 0] [(0,2,.t 46),(3,1,(oI (-1)))]),oW 48 (.buildSlice 42 4 (.agg [.int .i64 0,.int .i64 0,.nsl,.int .i64 0]) 1 [(0,.t 47)]),oW 49 (.append 42 4 48 (.t 45) (.t 48)),oA 50 2 6,oS 1 50 49]) (oQ [oW 52 (.arith .eql (.t 21) (oI 2)),oM 51 52]
 (.cond (.t 51) (.region [oA 53 4 6,oD 54 53,oW 55 (.build [.int .i64 0,.int .i64 0] [(0,1,oI 98)]),oW 56 (.build [.int .i64 0,.int .i64 0,.int .i64 0,.int .i64 0,.nsl,.int .i64 0,.bool false] [(0,2,.t 55),(5,1,(oI (-1)))]),oW 57 (.buildSlice 58 7 (.agg [.int .i64 0,.int .i64 0,.int .i64 0,.int .i64 0,.nsl,.int .i64 0,.bool false]) 1 [(0,.t 56)]),oW 58 (.append 58 7 72 (.t 54) (.t 57)),oA 59 4 6,oS 1 59 58]) (oQ [oW 61 (.arith .eql (.t 21) (oI 3)),oM 60 61]
 (.cond (.t 60) (.region [oA 62 5 6,oD 63 62,oW 64 (.build [.int .i64 0,.int .i64 0] [(0,1,(oI (-1)))]),oW 65 (.build [.int .i64 0,.int .i64 0,.nsl] [(0,2,.t 64)]),oW 66 (.build [.int .i64 0,.int .i64 0] [(0,1,(oI (-1)))]),oW 67 (.build [.int .i64 0,.int .i64 0,.nsl] [(0,2,.t 66)]),oW 68 (.buildSlice 60 3 (.agg [.int .i64 0,.int .i64 0,.nsl]) 2 [(0,.t 65),(1,.t 67)]),oW 69 (.append 60 3 40 (.t 63) (.t 68)),oA 70 5 6,oS 1 70 69]) (oQ [oW 72 (.arith .eql (.t 21) (oI 4)),oM 71 72]
 (.cond (.t 71) (.region [oA 73 3 6,oD 74 73,oW 75 (.build [.int .i64 0,.int .i64 0] [(0,1,oI 97)]),oW 76 (.build [.int .i64 0,.int .i64 0] [(0,1,oI 97)]),oW 77 (.buildSlice 37 2 (.agg [.int .i64 0,.int .i64 0]) 2 [(0,.t 75),(1,.t 76)]),oW 78 (.append 37 2 16 (.t 74) (.t 77)),oA 79 3 6,oS 1 79 78]) (.region [oW 22 (.build [.int .i64 0,.int .i64 0] [(0,1,(oI (-5)))]),oW 23 (.build [.str [],.int .i64 0,.int .i64 0,.int .i64 0,.str []] []),oW 24 (.buildSlice 62 5 (.agg [.str [],.int .i64 0,.int .i64 0,.int .i64 0,.str []]) 1 [(0,.t 23)]),oW 25 (.build [.int .i64 0,.int .i64 0,.nsl] [(0,2,.t 22),(2,1,.t 24)]),oW 26 (.buildSlice 60 3 (.agg [.int .i64 0,.int .i64 0,.nsl]) 1 [(0,.t 25)]),oA 27 5 6,oD 28 27,oW 29 (.append 60 3 40 (.t 26) (.t 28)),oA 30 5 6,oS 1 30 29])))))))))))))
 t4s0)))))}
theorem c4:compFunc Tryz.prog Tryz.f4 .pure=some t4:=by kernel_rfl
def t15:DFunc:={ntmps:=14,results:=[(.cell 4 (some 6))],mode:=.pure,body :=
 (oQ [oW 4 (.alloc 29 6 (.agg [.int .i64 0,.nsl,.nsl,.nsl,.nsl,.nsl]))]
 (oQ [oM 6 1,oW 7 (.call (oF 64) [.t 6]),oM 5 7]
 (oQ [oM 8 5,oW 9 (.call (oF 65) [.t 8])]
 (oQ [oM 10 0,oM 11 5,oW 12 (.call (oF 66) [.t 11]),oW 13 (.build [.int .i64 0,.nsl,.nsl,.nsl,.nsl,.nsl] [(0,1,.t 10),(1,1,.t 12)]),oS 6 4 13]
 .ret))))}
theorem c15:compFunc Tryz.prog Tryz.f15 .pure=some t15:=by kernel_rfl
def t16:DFunc:={ntmps:=24,results:=[.t 6],mode:=.pure,body :=
 (oQ [oW 6 (.move (oI 0))]
 (oQ [oM 7 0,oM 8 2,oM 9 1,oW 10 (.arith .sub (.t 8) (.t 9)),oW 11 (.arith .add (.t 10) (oI 1)),oW 12 (.arith .rem (.t 7) (.t 11)),oM 0 12]
 (.seq (oQ [oM 13 0,oW 14 (.arith .lss (.t 13) (oI 0))]
 (.cond (.t 14) (.region [oM 15 0,oM 16 2,oW 17 (.arith .add (.t 15) (.t 16)),oM 18 1,oW 19 (.arith .sub (.t 17) (.t 18)),oW 20 (.arith .add (.t 19) (oI 1)),oM 0 20]) .skip))
 (oQ [oM 21 1,oM 22 0,oW 23 (.arith .add (.t 21) (.t 22)),oM 6 23]
 .ret))))}
theorem c16:compFunc Tryz.prog Tryz.f16 .pure=some t16:=by kernel_rfl
def t17:DFunc:={ntmps:=29,results:=[(.cell 2 (some 6))],mode:=.full,body :=
 (oQ [oW 1 (.box 29 6 (.t 0)),oW 2 (.alloc 29 6 (.agg [.int .i64 0,.nsl,.nsl,.nsl,.nsl,.nsl]))]
 (oQ [oW 3 (.buildSlice 3 1 (.int .i64 0) 0 []),oA 4 1 1,oD 5 4,oW 6 (.append 3 1 8 (.t 3) (.t 5)),oA 7 1 1,oS 1 7 6]
 (oQ [oW 8 (.buildSlice 42 4 (.agg [.int .i64 0,.int .i64 0,.nsl,.int .i64 0]) 0 []),oA 9 2 1,oD 10 9,oW 11 (.append 42 4 48 (.t 8) (.t 10)),oA 12 2 1,oS 1 12 11]
 (oQ [oW 13 (.buildSlice 37 2 (.agg [.int .i64 0,.int .i64 0]) 0 []),oA 14 3 1,oD 15 14,oW 16 (.append 37 2 16 (.t 13) (.t 15)),oA 17 3 1,oS 1 17 16]
 (oQ [oW 18 (.buildSlice 58 7 (.agg [.int .i64 0,.int .i64 0,.int .i64 0,.int .i64 0,.nsl,.int .i64 0,.bool false]) 0 []),oA 19 4 1,oD 20 19,oW 21 (.append 58 7 72 (.t 18) (.t 20)),oA 22 4 1,oS 1 22 21]
 (oQ [oW 23 (.buildSlice 60 3 (.agg [.int .i64 0,.int .i64 0,.nsl]) 0 []),oA 24 5 1,oD 25 24,oW 26 (.append 60 3 40 (.t 23) (.t 25)),oA 27 5 1,oS 1 27 26]
 (oQ [oL 28 6 1,oS 6 2 28]
 .ret)))))))}
theorem c17:compFunc Tryz.prog Tryz.f17 .full=some t17:=by kernel_rfl
def t18l0:DCode :=
 (oQ [oW 9 (.arith .lss (.t 8) (.t 7))]
 (.seq (.cond (.t 9) .skip (.exit 0))
 (.seq (.block 1 (oQ [oM 10 8,oW 11 (.indexAddr 1 (.t 6) (.t 8)),oD 12 11,oM 4 10,oM 5 12]
 (oQ [oM 13 4,oA 14 0 1,oD 15 14,oW 16 (.len 1 (.t 15)),oW 17 (.arith .lss (.t 13) (.t 16)),oM 18 17,gA 19 0 1 18 true,gD 20 19 18 true,gM 21 4 18 true,gW 22 (.indexAddr 1 (.t 20) (.t 21)) 18 true,gD 23 22 18 true,gW 24 (.arith .and (.t 23) (oI 1)) 18 true,gW 25 (.arith .eql (.t 24) (oI 1)) 18 true,oW 26 (.pick (.t 18) (.t 25) (oB false)),oM 27 26,gM 28 3 27 true,gW 29 (.len 1 (.t 28)) 27 true,gW 30 (.arith .lss (.t 29) (oI 5)) 27 true,oW 31 (.pick (.t 27) (.t 30) (oB false))]
 (.cond (.t 31) (.region [oM 32 3,oM 33 5,oA 34 1 1,oD 35 34,oM 36 4,oW 37 (.call (oF 69) [.t 35,.t 36]),oW 38 (.call (oF 68) [.t 33,.t 37]),oW 39 (.buildSlice 62 5 (.agg [.str [],.int .i64 0,.int .i64 0,.int .i64 0,.str []]) 1 [(0,.t 38)]),oW 40 (.append 62 5 56 (.t 32) (.t 39)),oM 3 40]) .skip))))
 (.region [oW 41 (.arith .add (.t 8) (oI 1)),oM 8 41]))))
def t18k0:DCode :=
 (oQ [oM 42 3,oM 2 42]
 .ret)
def t18:DFunc:={ntmps:=43,results:=[.t 2],mode:=.pure,body :=
 (oQ [oW 1 (.box 32 2 (.t 0)),oW 2 (.move (.c .nsl))]
 (oQ [oW 3 (.move (.c .nsl))]
 (.seq (oQ [oW 6 (.call (oF 67) []),oW 7 (.len 1 (.t 6)),oW 8 (.move (oI 0))]
 (.block 0 (.loop t18l0)))
 t18k0)))}
theorem c18:compFunc Tryz.prog Tryz.f18 .pure=some t18:=by kernel_rfl
def t19:DFunc:={ntmps:=44,results:=[(.cell 4 (some 6)),.t 5],mode:=.frz,body :=
 (oQ [oW 2 (.box 29 6 (.t 0)),oW 3 (.box 42 4 (.t 1)),oW 4 (.alloc 29 6 (.agg [.int .i64 0,.nsl,.nsl,.nsl,.nsl,.nsl])),oW 5 (.move (oB false))]
 (oQ [oL 10 6 2,oW 11 (.call (oF 70) [.t 10]),oS 6 2 11]
 (oQ [oL 13 6 2,oA 14 0 3,oL 15 2 14,oW 16 (.call (oF 71) [.t 13,.t 15]),oM 12 16,oX 17 12 0,oX 18 12 1,oM 6 17,oM 7 18]
 (.seq (oQ [oM 19 7]
 (.cond (.t 19) (oQ [oL 20 6 2,oS 6 4 20,oW 5 (.move (oB false))]
 .ret) .skip))
 (oQ [oL 22 6 2,oA 23 0 3,oL 24 2 23,oW 25 (.call (oF 72) [.t 22,.t 24]),oM 21 25,oX 26 21 0,oX 27 21 1,oM 8 26,oM 9 27]
 (oQ [oA 28 2 2,oD 29 28,oM 30 8,oL 31 4 3,oW 32 (.buildSlice 42 4 (.agg [.int .i64 0,.int .i64 0,.nsl,.int .i64 0]) 1 [(0,.t 31)]),oW 33 (.call (oF 73) [.t 29,.t 30,.t 32]),oA 34 2 2,oS 1 34 33]
 (oQ [oA 35 3 2,oD 36 35,oM 37 6,oA 38 0 3,oL 39 2 38,oW 40 (.buildSlice 37 2 (.agg [.int .i64 0,.int .i64 0]) 1 [(0,.t 39)]),oW 41 (.call (oF 74) [.t 36,.t 37,.t 40]),oA 42 3 2,oS 1 42 41]
 (oQ [oL 43 6 2,oS 6 4 43,oW 5 (.move (oB true))]
 .ret))))))))}
theorem c19:compFunc Tryz.prog Tryz.f19 .frz=some t19:=by kernel_rfl
def t20l0:DCode :=
 (.seq (.seq (.draw [oRA 13 3 2,oRD 14 13,oRM 12 6,oR 15 (.len 1 (.t 14)),oR 16 (.arith .lss (.t 12) (.t 15)),oRM 17 16,rA 18 3 2 17 true,rD 19 18 17 true,rM 20 6 17 true,rW 21 (.indexAddr 2 (.t 19) (.t 20)) 17 true,rL 22 2 21 17 true,rA 23 0 3 17 true,rL 24 2 23 17 true,gW 25 (.call (oF 76) [.t 22,.t 24]) 17 true,nK 26 (.pick (.t 17) (.t 25) (oB false)) .read 1])
 (.cond (.t 26) .skip (.exit 0)))
 (.block 1 (.region [oM 27 6,oW 28 (.arith .add (.t 27) (oI 1)),oM 6 28])))
def t20l1:DCode :=
 (.seq (.seq (.draw [oRA 46 2 2,oRD 47 46,oRM 45 6,oR 48 (.len 1 (.t 47)),oR 49 (.arith .lss (.t 45) (.t 48)),oRM 50 49,rA 51 2 2 50 true,rD 52 51 50 true,rM 53 6 50 true,rW 54 (.indexAddr 4 (.t 52) (.t 53)) 50 true,rA 55 0 54 50 true,rL 56 2 55 50 true,rA 57 0 3 50 true,rL 58 2 57 50 true,gW 59 (.call (oF 76) [.t 56,.t 58]) 50 true,nK 60 (.pick (.t 50) (.t 59) (oB false)) .read 1])
 (.cond (.t 60) .skip (.exit 2)))
 (.block 3 (.region [oM 61 6,oW 62 (.arith .add (.t 61) (oI 1)),oM 6 62])))
def t20k0:DCode :=
 (.seq (.draw [oRA 64 2 2,oRD 65 64,oRM 66 6,oR 67 (.sliceSl 4 (.t 65) none (some (.t 66))),nK 63 (.buildSlice 42 4 (.agg [.int .i64 0,.int .i64 0,.nsl,.int .i64 0]) 0 []) .create 0,nK 68 (.append 42 4 48 (.t 63) (.t 67)) .create 0,oRL 69 4 3,nK 70 (.buildSlice 42 4 (.agg [.int .i64 0,.int .i64 0,.nsl,.int .i64 0]) 1 [(0,.t 69)]) .create 0,nK 71 (.append 42 4 48 (.t 68) (.t 70)) .create 0,oRA 72 2 2,oRD 73 72,oRM 74 6,oR 75 (.sliceSl 4 (.t 73) (some (.t 74)) none),nK 76 (.append 42 4 48 (.t 71) (.t 75)) .write 4,nK 77 (.fieldAddr 2 (.t 2)) .read 5,⟨none,.store 1 (.t 77) (.t 76),none,.write,5,false⟩])
 (oQ [oL 78 6 2,oS 6 4 78,oW 5 (.move (oB true))]
 .ret))
def t20k1:DCode :=
 (.seq (.draw [oRA 30 3 2,oRD 31 30,oRM 32 6,oR 33 (.sliceSl 2 (.t 31) none (some (.t 32))),nK 29 (.buildSlice 37 2 (.agg [.int .i64 0,.int .i64 0]) 0 []) .create 0,nK 34 (.append 37 2 16 (.t 29) (.t 33)) .create 0,oRA 35 0 3,oRL 36 2 35,nK 37 (.buildSlice 37 2 (.agg [.int .i64 0,.int .i64 0]) 1 [(0,.t 36)]) .create 0,nK 38 (.append 37 2 16 (.t 34) (.t 37)) .create 0,oRA 39 3 2,oRD 40 39,oRM 41 6,oR 42 (.sliceSl 2 (.t 40) (some (.t 41)) none),nK 43 (.append 37 2 16 (.t 38) (.t 42)) .write 4,nK 44 (.fieldAddr 3 (.t 2)) .read 5,⟨none,.store 1 (.t 44) (.t 43),none,.write,5,false⟩])
 (oQ [oW 6 (.move (oI 0))]
 (.seq (.block 2 (.loop t20l1))
 t20k0)))
def t20:DFunc:={ntmps:=79,results:=[(.cell 4 (some 6)),.t 5],mode:=.frz,body :=
 (oQ [oW 2 (.box 29 6 (.t 0)),oW 3 (.box 42 4 (.t 1)),oW 4 (.alloc 29 6 (.agg [.int .i64 0,.nsl,.nsl,.nsl,.nsl,.nsl])),oW 5 (.move (oB false))]
 (.seq (oQ [oL 7 6 2,oA 8 0 3,oL 9 2 8,oW 10 (.call (oF 75) [.t 7,.t 9])]
 (.cond (.t 10) (oQ [oL 11 6 2,oS 6 4 11,oW 5 (.move (oB false))]
 .ret) .skip))
 (oQ [oW 6 (.move (oI 0))]
 (.seq (.block 0 (.loop t20l0))
 t20k1))))}
theorem c20:compFunc Tryz.prog Tryz.f20 .frz=some t20:=by kernel_rfl
def t21:DFunc:={ntmps:=44,results:=[(.cell 6 (some 6)),.t 7],mode:=.frz,body :=
 (oQ [oW 3 (.box 29 6 (.t 0)),oW 4 (.box 37 2 (.t 1)),oW 6 (.alloc 29 6 (.agg [.int .i64 0,.nsl,.nsl,.nsl,.nsl,.nsl])),oW 7 (.move (oB false))]
 (oQ [oL 10 6 3,oW 11 (.call (oF 70) [.t 10]),oS 6 3 11]
 (oQ [oL 13 6 3,oL 14 2 4,oW 15 (.call (oF 72) [.t 13,.t 14]),oM 12 15,oX 16 12 0,oX 17 12 1,oM 8 16,oM 9 17]
 (.seq (oQ [oM 18 9,oW 19 (.un .not (.t 18)),oM 20 19,gA 21 2 3 20 false,gD 22 21 20 false,gM 23 8 20 false,gW 24 (.indexAddr 4 (.t 22) (.t 23)) 20 false,gA 25 3 24 20 false,gD 26 25 20 false,gM 27 2 20 false,gW 28 (.arith .neq (.t 26) (.t 27)) 20 false,oW 29 (.pick (.t 20) (oB true) (.t 28))]
 (.cond (.t 29) (oQ [oL 30 6 3,oS 6 6 30,oW 7 (.move (oB false))]
 .ret) .skip))
 (oQ [oA 31 2 3,oD 32 31,oM 33 8,oM 34 8,oW 35 (.arith .add (.t 34) (oI 1)),oW 36 (.call (oF 77) [.t 32,.t 33,.t 35]),oA 37 2 3,oS 1 37 36]
 (oQ [oA 38 4 3,oD 39 38,oW 40 (.makeFunc 79 [.t 4]),oW 41 (.call (oF 78) [.t 39,.t 40]),oA 42 4 3,oS 1 42 41]
 (oQ [oL 43 6 3,oS 6 6 43,oW 7 (.move (oB true))]
 .ret)))))))}
theorem c21:compFunc Tryz.prog Tryz.f21 .frz=some t21:=by kernel_rfl
def t22l0:DCode :=
 (oQ [oW 45 (.arith .lss (.t 44) (.t 43))]
 (.seq (.cond (.t 45) .skip (.exit 0))
 (.seq (.block 1 (oQ [oW 46 (.indexAddr 7 (.t 42) (.t 44)),oL 47 7 46,oW 11 (.alloc 58 7 (.agg [.int .i64 0,.int .i64 0,.int .i64 0,.int .i64 0,.nsl,.int .i64 0,.bool false])),oS 7 11 47]
 (oQ [oA 48 0 11,oL 49 2 48,oL 50 2 4,oW 51 (.eqa true [1,1] (.t 49) (.t 50))]
 (.cond (.t 51) (.region [oM 52 9,oL 53 7 11,oW 54 (.buildSlice 58 7 (.agg [.int .i64 0,.int .i64 0,.int .i64 0,.int .i64 0,.nsl,.int .i64 0,.bool false]) 1 [(0,.t 53)]),oW 55 (.append 58 7 72 (.t 52) (.t 54)),oM 9 55]) .skip))))
 (.region [oW 56 (.arith .add (.t 44) (oI 1)),oM 44 56]))))
def t22k0:DCode :=
 (oQ [oM 57 9,oA 58 4 3,oS 1 58 57]
 (oQ [oL 59 6 3,oS 6 6 59,oW 7 (.move (oB true))]
 .ret))
def t22:DFunc:={ntmps:=60,results:=[(.cell 6 (some 6)),.t 7],mode:=.frz,body :=
 (oQ [oW 3 (.box 29 6 (.t 0)),oW 4 (.box 37 2 (.t 1)),oW 6 (.alloc 29 6 (.agg [.int .i64 0,.nsl,.nsl,.nsl,.nsl,.nsl])),oW 7 (.move (oB false))]
 (oQ [oL 12 6 3,oL 13 2 4,oW 14 (.call (oF 24) [.t 12,.t 13]),oM 8 14]
 (.seq (oQ [oM 15 8,oW 16 (.arith .lss (.t 15) (oI 0)),oM 17 16,gA 18 2 3 17 false,gD 19 18 17 false,gM 20 8 17 false,gW 21 (.indexAddr 4 (.t 19) (.t 20)) 17 false,gA 22 3 21 17 false,gD 23 22 17 false,gM 24 2 17 false,gW 25 (.arith .neq (.t 23) (.t 24)) 17 false,oW 26 (.pick (.t 17) (oB true) (.t 25))]
 (.cond (.t 26) (oQ [oL 27 6 3,oS 6 6 27,oW 7 (.move (oB false))]
 .ret) .skip))
 (.seq (.draw [oRA 29 2 3,oRD 30 29,oRM 31 8,oR 32 (.sliceSl 4 (.t 30) none (some (.t 31))),nK 28 (.buildSlice 42 4 (.agg [.int .i64 0,.int .i64 0,.nsl,.int .i64 0]) 0 []) .create 0,nK 33 (.append 42 4 48 (.t 28) (.t 32)) .create 0,oRA 34 2 3,oRD 35 34,oRM 36 8,oR 37 (.arith .add (.t 36) (oI 1)),oR 38 (.sliceSl 4 (.t 35) (some (.t 37)) none),nK 39 (.append 42 4 48 (.t 33) (.t 38)) .write 2,nK 40 (.fieldAddr 2 (.t 3)) .read 3,⟨none,.store 1 (.t 40) (.t 39),none,.write,3,false⟩])
 (oQ [oW 9 (.move (.c .nsl))]
 (.seq (oQ [oA 41 4 3,oD 42 41,oW 43 (.len 1 (.t 42)),oW 44 (.move (oI 0))]
 (.block 0 (.loop t22l0)))
 t22k0))))))}
theorem c22:compFunc Tryz.prog Tryz.f22 .frz=some t22:=by kernel_rfl
def t23:DFunc:={ntmps:=22,results:=[(.cell 4 (some 4)),.t 5],mode:=.pure,body :=
 (oQ [oW 2 (.box 29 6 (.t 0)),oW 3 (.box 37 2 (.t 1)),oW 4 (.alloc 42 4 (.agg [.int .i64 0,.int .i64 0,.nsl,.int .i64 0])),oW 5 (.move (oB false))]
 (oQ [oL 9 6 2,oL 10 2 3,oW 11 (.call (oF 72) [.t 9,.t 10]),oM 8 11,oX 12 8 0,oX 13 8 1,oM 6 12,oM 7 13]
 (.seq (oQ [oM 14 7,oW 15 (.un .not (.t 14))]
 (.cond (.t 15) (oQ [oW 16 (.build [.int .i64 0,.int .i64 0,.nsl,.int .i64 0] []),oS 4 4 16,oW 5 (.move (oB false))]
 .ret) .skip))
 (oQ [oA 17 2 2,oD 18 17,oM 19 6,oW 20 (.indexAddr 4 (.t 18) (.t 19)),oL 21 4 20,oS 4 4 21,oW 5 (.move (oB true))]
 .ret))))}
theorem c23:compFunc Tryz.prog Tryz.f23 .pure=some t23:=by kernel_rfl
def t24l0:DCode :=
 (oQ [oW 11 (.arith .lss (.t 10) (.t 9))]
 (.seq (.cond (.t 11) .skip (.exit 0))
 (.seq (.block 1 (oQ [oM 12 10,oW 13 (.indexAddr 4 (.t 8) (.t 10)),oL 14 4 13,oW 6 (.alloc 42 4 (.agg [.int .i64 0,.int .i64 0,.nsl,.int .i64 0])),oM 5 12,oS 4 6 14]
 (oQ [oA 15 0 6,oL 16 2 15,oL 17 2 3,oW 18 (.eqa false [1,1] (.t 16) (.t 17))]
 (.cond (.t 18) (oQ [oM 19 5,oM 4 19]
 .ret) .skip))))
 (.region [oW 20 (.arith .add (.t 10) (oI 1)),oM 10 20]))))
def t24k0:DCode :=
 (oQ [oW 4 (.move (oI (-1)))]
 .ret)
def t24:DFunc:={ntmps:=21,results:=[.t 4],mode:=.pure,body :=
 (oQ [oW 2 (.box 29 6 (.t 0)),oW 3 (.box 37 2 (.t 1)),oW 4 (.move (oI 0))]
 (.seq (oQ [oA 7 2 2,oD 8 7,oW 9 (.len 1 (.t 8)),oW 10 (.move (oI 0))]
 (.block 0 (.loop t24l0)))
 t24k0))}
theorem c24:compFunc Tryz.prog Tryz.f24 .pure=some t24:=by kernel_rfl
def t26:DFunc:={ntmps:=45,results:=[.t 4],mode:=.pure,body :=
 (oQ [oW 2 (.box 29 6 (.t 0)),oW 3 (.box 29 6 (.t 1)),oW 4 (.move (oB false))]
 (oQ [oA 5 0 2,oD 6 5,oA 7 0 3,oD 8 7,oW 9 (.arith .eql (.t 6) (.t 8)),oM 10 9,gA 11 1 2 10 true,gD 12 11 10 true,gA 13 1 3 10 true,gD 14 13 10 true,gW 15 (.call (oF 82) [.t 12,.t 14]) 10 true,oW 16 (.pick (.t 10) (.t 15) (oB false)),oM 17 16,gA 18 3 2 17 true,gD 19 18 17 true,gA 20 3 3 17 true,gD 21 20 17 true,gW 22 (.call (oF 83) [.t 19,.t 21]) 17 true,oW 23 (.pick (.t 17) (.t 22) (oB false)),oM 24 23,gA 25 2 2 24 true,gD 26 25 24 true,gA 27 2 3 24 true,gD 28 27 24 true,gW 29 (.call (oF 84) [.t 26,.t 28,oF 85]) 24 true,oW 30 (.pick (.t 24) (.t 29) (oB false)),oM 31 30,gA 32 4 2 31 true,gD 33 32 31 true,gA 34 4 3 31 true,gD 35 34 31 true,gW 36 (.call (oF 87) [.t 33,.t 35,oF 88]) 31 true,oW 37 (.pick (.t 31) (.t 36) (oB false)),oM 38 37,gA 39 5 2 38 true,gD 40 39 38 true,gA 41 5 3 38 true,gD 42 41 38 true,gW 43 (.call (oF 89) [.t 40,.t 42,oF 90]) 38 true,oW 44 (.pick (.t 38) (.t 43) (oB false)),oM 4 44]
 .ret))}
theorem c26:compFunc Tryz.prog Tryz.f26 .pure=some t26:=by kernel_rfl
def t27:DFunc:={ntmps:=48,results:=[.t 2],mode:=.pure,body :=
 (oQ [oW 1 (.box 29 6 (.t 0)),oW 2 (.move (oB false))]
 (oQ [oA 4 1 1,oD 5 4,oW 6 (.call (oF 91) [.t 5,oF 92]),oM 7 6,gA 8 3 1 7 true,gD 9 8 7 true,gW 10 (.call (oF 93) [.t 9,oF 56]) 7 true,oW 11 (.pick (.t 7) (.t 10) (oB false)),oM 12 11,gA 13 2 1 12 true,gD 14 13 12 true,gW 15 (.call (oF 94) [.t 14,oF 95]) 12 true,oW 16 (.pick (.t 12) (.t 15) (oB false)),oM 17 16,gA 18 5 1 17 true,gD 19 18 17 true,gW 20 (.call (oF 96) [.t 19,oF 97]) 17 true,oW 21 (.pick (.t 17) (.t 20) (oB false)),oM 22 21,gA 23 4 1 22 true,gD 24 23 22 true,gW 25 (.call (oF 98) [.t 24,oF 99]) 22 true,oW 26 (.pick (.t 22) (.t 25) (oB false)),oM 3 26]
 (oQ [oM 27 3,oM 28 27,gA 29 2 1 28 true,gD 30 29 28 true,gW 31 (.makeFunc 103 [.t 1]) 28 true,gW 32 (.call (oF 102) [.t 30,.t 31]) 28 true,gW 33 (.un .not (.t 32)) 28 true,oW 34 (.pick (.t 28) (.t 33) (oB false)),oM 35 34,gA 36 4 1 35 true,gD 37 36 35 true,gW 38 (.makeFunc 107 [.t 1]) 35 true,gW 39 (.call (oF 106) [.t 37,.t 38]) 35 true,gW 40 (.un .not (.t 39)) 35 true,oW 41 (.pick (.t 35) (.t 40) (oB false)),oM 42 41,gA 43 5 1 42 true,gD 44 43 42 true,gW 45 (.call (oF 109) [.t 44,oF 110]) 42 true,gW 46 (.un .not (.t 45)) 42 true,oW 47 (.pick (.t 42) (.t 46) (oB false)),oM 2 47]
 .ret)))}
theorem c27:compFunc Tryz.prog Tryz.f27 .pure=some t27:=by kernel_rfl
def t28:DFunc:={ntmps:=55,results:=[.t 0],mode:=.pure,body :=
 (oQ [oW 0 (.move (oB false))]
 (oQ [oW 8 (.build [.int .i64 0,.int .i64 0] [(0,1,oI 1)]),oW 9 (.build [.int .i64 0,.int .i64 0,.nsl,.int .i64 0] [(0,2,.t 8),(3,1,oI 2)]),oW 1 (.alloc 42 4 (.agg [.int .i64 0,.int .i64 0,.nsl,.int .i64 0])),oS 4 1 9]
 (.seq (.draw [nK 11 (.buildSlice 3 1 (.int .i64 0) 3 [(0,oI 3),(1,oI 2),(2,oI 3)]) .create 0,nK 12 (.call (oF 15) [oI 0,.t 11]) .create 0,oRL 13 4 1,nK 14 (.call (oF 19) [.t 12,.t 13]) .write 2,nK 10 (.move (.t 14)) .read 3,nK 15 (.extract (.t 10) 0) .read 3,nK 2 (.alloc 29 6 (.agg [.int .i64 0,.nsl,.nsl,.nsl,.nsl,.nsl])) .create 0,⟨none,.store 6 (.t 2) (.t 15),none,.write,4,false⟩,nK 16 (.extract (.t 10) 1) .read 3,nK 3 (.move (.t 16)) .read 5])
 (oQ [oL 18 6 2,oL 19 4 1,oW 20 (.call (oF 19) [.t 18,.t 19]),oM 17 20,oX 21 17 0,oX 22 17 1,oW 4 (.alloc 29 6 (.agg [.int .i64 0,.nsl,.nsl,.nsl,.nsl,.nsl])),oS 6 4 21,oM 5 22]
 (oQ [oL 24 6 2,oA 25 0 1,oL 26 2 25,oW 27 (.call (oF 21) [.t 24,.t 26,oI 3]),oM 23 27,oX 28 23 0,oX 29 23 1,oW 6 (.alloc 29 6 (.agg [.int .i64 0,.nsl,.nsl,.nsl,.nsl,.nsl])),oS 6 6 28,oM 7 29]
 (oQ [oM 30 3,oM 31 30,gM 32 5 31 true,gW 33 (.un .not (.t 32)) 31 true,oW 34 (.pick (.t 31) (.t 33) (oB false)),oM 35 34,gM 36 7 35 true,gW 37 (.un .not (.t 36)) 35 true,oW 38 (.pick (.t 35) (.t 37) (oB false)),oM 39 38,gA 40 1 2 39 true,gD 41 40 39 true,gW 42 (.buildSlice 3 1 (.int .i64 0) 2 [(0,oI 2),(1,oI 3)]) 39 true,gW 43 (.call (oF 80) [.t 41,.t 42]) 39 true,oW 44 (.pick (.t 39) (.t 43) (oB false)),oM 45 44,gL 46 6 2 45 true,gA 47 0 1 45 true,gL 48 2 47 45 true,gW 49 (.call (oF 57) [.t 46,.t 48]) 45 true,oW 50 (.pick (.t 45) (.t 49) (oB false)),oM 51 50,gL 52 6 2 51 true,gW 53 (.call (oF 27) [.t 52]) 51 true,oW 54 (.pick (.t 51) (.t 53) (oB false)),oM 0 54]
 .ret))))))}
theorem c28:compFunc Tryz.prog Tryz.f28 .pure=some t28:=by kernel_rfl
def t29s0:DCode :=
 (.region [oW 25 (.arith .add (.t 15) (oI 1)),oM 15 25])
def t29l0:DCode :=
 (oQ [oW 16 (.arith .lss (.t 15) (.t 14))]
 (.seq (.cond (.t 16) .skip (.exit 0))
 (.seq (.block 1 (oQ [oM 17 15,oM 4 17]
 (.region [oA 18 1 3,oD 19 18,oM 20 4,oW 21 (.arith .add (.t 20) (oI 1)),oW 22 (.buildSlice 3 1 (.int .i64 0) 1 [(0,.t 21)]),oW 23 (.append 3 1 8 (.t 19) (.t 22)),oA 24 1 3,oS 1 24 23])))
 t29s0)))
def t29s1:DCode :=
 (.region [oM 35 5,oW 36 (.arith .add (.t 35) (oI 1)),oM 5 36])
def t29l1:DCode :=
 (.seq (oQ [oM 26 5,oA 27 1 1,oD 28 27,oW 29 (.len 1 (.t 28)),oW 30 (.arith .lss (.t 26) (.t 29)),oM 31 30,gM 32 5 31 true,gW 33 (.arith .lss (.t 32) (oI 12)) 31 true,oW 34 (.pick (.t 31) (.t 33) (oB false))]
 (.cond (.t 34) .skip (.exit 2)))
 (.seq (.block 3 (oQ [oA 37 1 1,oD 38 37,oM 39 5,oW 40 (.indexAddr 7 (.t 38) (.t 39)),oL 41 7 40,oW 6 (.alloc 96 7 (.agg [.int .i64 0,.int .i64 0,.int .i64 0,.int .i64 0,.int .i64 0,.nsl,.nsl])),oS 7 6 41]
 (oQ [oA 42 2 6,oD 43 42,oW 44 (.call (oF 16) [.t 43,oI 0,oI 2]),oW 45 (.build [.int .i64 0,.int .i64 0] [(0,1,.t 44)]),oW 7 (.alloc 37 2 (.agg [.int .i64 0,.int .i64 0])),oS 2 7 45]
 (.seq (.draw [oRA 46 3 6,oRD 47 46,nK 48 (.call (oF 16) [.t 47,oI 0,oI 4]) .create 0,oRA 49 4 6,oRD 50 49,nK 51 (.call (oF 16) [.t 50,oI 0,oI 2]) .write 1,nK 52 (.build [.int .i64 0,.int .i64 0] [(0,1,.t 48),(1,1,.t 51)]) .read 2,nK 8 (.alloc 37 2 (.agg [.int .i64 0,.int .i64 0])) .create 0,⟨none,.store 2 (.t 8) (.t 52),none,.write,3,false⟩])
 (oQ [oL 53 6 3,oA 54 1 6,oD 55 54,oW 56 (.call (oF 30) [.t 53,.t 55]),oM 9 56]
 (.seq (.draw [oRA 57 0 6,oRD 58 57,nK 59 (.call (oF 16) [.t 58,oI 1,oI 7]) .create 0,oRL 60 2 7,oRL 61 2 8,oRA 62 5 6,oRL 63 2 62,nK 64 (.call (oF 18) [.t 63]) .create 0,nK 65 (.build [.int .i64 0,.int .i64 0,.int .i64 0,.int .i64 0,.int .i64 0,.nsl,.nsl] [(0,1,.t 59),(1,2,.t 60),(3,2,.t 61),(5,1,.t 64)]) .read 2,nK 10 (.alloc 84 7 (.agg [.int .i64 0,.int .i64 0,.int .i64 0,.int .i64 0,.int .i64 0,.nsl,.nsl])) .create 0,⟨none,.store 7 (.t 10) (.t 65),none,.write,3,false⟩])
 (.block 4 (oQ [oA 75 0 10,oD 76 75,oW 77 (.arith .eql (.t 76) (oI 6)),oM 74 77]
 (.cond (.t 74) (.region [oL 79 6 3,oL 80 2 8,oA 81 5 10,oD 82 81,oW 83 (.call (oF 46) [.t 79,.t 80,.t 82]),oM 78 83,oX 84 78 0,oX 85 78 1,oS 6 3 84]) (oQ [oA 87 0 10,oD 88 87,oW 89 (.arith .eql (.t 88) (oI 7)),oM 86 89]
 (.cond (.t 86) (.region [oL 91 6 3,oL 92 2 8,oW 93 (.call (oF 61) [.t 91,.t 92]),oM 90 93,oX 94 90 0,oX 95 90 1,oS 6 3 94]) (.seq (oQ [oA 97 0 10,oD 98 97,oW 99 (.arith .eql (.t 98) (oI 3)),oM 100 99,gM 101 9 100 true,gW 102 (.arith .eql (.t 101) (oI (-1))) 100 true,oW 103 (.pick (.t 100) (.t 102) (oB false)),oM 96 103]
 (.cond (.t 96) .skip (oQ [oA 104 0 10,oD 105 104,oW 106 (.arith .eql (.t 105) (oI 4)),oM 107 106,gM 108 9 107 true,gW 109 (.arith .eql (.t 108) (oI (-1))) 107 true,oW 110 (.pick (.t 107) (.t 109) (oB false)),oM 96 110]
 (.cond (.t 96) .skip (.region [oA 111 0 10,oD 112 111,oW 113 (.arith .eql (.t 112) (oI 5)),oM 96 113])))))
 (.cond (.t 96) (.region [oL 115 6 3,oM 116 9,oL 117 2 7,oA 118 5 10,oD 119 118,oW 120 (.call (oF 59) [.t 115,.t 116,.t 117,.t 119]),oM 114 120,oX 121 114 0,oX 122 114 1,oS 6 3 121]) (.region [oL 67 6 3,oM 68 9,oL 69 7 10,oW 70 (.call (oF 111) [.t 67,.t 68,.t 69]),oM 66 70,oX 71 66 0,oX 72 66 1,oX 73 66 2,oS 6 3 71]))))))))))))))
 t29s1))
def t29k0:DCode :=
 (oQ [oL 123 6 3,oS 6 2 123]
 .ret)
def t29k1:DCode :=
 (.seq (oQ [oW 5 (.move (oI 0))]
 (.block 2 (.loop t29l1)))
 t29k0)
def t29:DFunc:={ntmps:=124,results:=[(.cell 2 (some 6))],mode:=.pure,body :=
 (oQ [oW 1 (.box 55 2 (.t 0)),oW 2 (.alloc 29 6 (.agg [.int .i64 0,.nsl,.nsl,.nsl,.nsl,.nsl]))]
 (oQ [oW 11 (.build [.int .i64 0,.nsl,.nsl,.nsl,.nsl,.nsl] [(0,1,oI 0)]),oW 3 (.alloc 29 6 (.agg [.int .i64 0,.nsl,.nsl,.nsl,.nsl,.nsl])),oS 6 3 11]
 (.seq (oQ [oA 12 0 1,oD 13 12,oW 14 (.call (oF 16) [.t 13,oI 1,oI 4]),oW 15 (.move (oI 0))]
 (.block 0 (.loop t29l0)))
 t29k1)))}
theorem c29:compFunc Tryz.prog Tryz.f29 .pure=some t29:=by kernel_rfl
def t30:DFunc:={ntmps:=21,results:=[.t 4],mode:=.pure,body :=
 (oQ [oW 2 (.box 29 6 (.t 0)),oW 4 (.move (oI 0))]
 (.seq (oQ [oM 6 1,oA 7 1 2,oD 8 7,oW 9 (.len 1 (.t 8)),oW 10 (.call (oF 16) [.t 6,oI 0,.t 9]),oM 5 10]
 (oQ [oM 11 5,oA 12 1 2,oD 13 12,oW 14 (.len 1 (.t 13)),oW 15 (.arith .lss (.t 11) (.t 14))]
 (.cond (.t 15) (oQ [oA 16 1 2,oD 17 16,oM 18 5,oW 19 (.indexAddr 1 (.t 17) (.t 18)),oD 20 19,oM 4 20]
 .ret) .skip)))
 (oQ [oW 4 (.move (oI (-1)))]
 .ret)))}
theorem c30:compFunc Tryz.prog Tryz.f30 .pure=some t30:=by kernel_rfl
def t36l0:DCode :=
 (oQ [oW 13 (.arith .lss (.t 12) (.t 11))]
 (.seq (.cond (.t 13) .skip (.exit 0))
 (.seq (.block 1 (oQ [oW 14 (.indexAddr 7 (.t 10) (.t 12)),oL 15 7 14,oW 8 (.alloc 58 7 (.agg [.int .i64 0,.int .i64 0,.int .i64 0,.int .i64 0,.nsl,.int .i64 0,.bool false])),oS 7 8 15]
 (oQ [oA 16 0 8,oL 17 2 16,oL 18 2 4,oW 19 (.eqa false [1,1] (.t 17) (.t 18)),oM 20 19,gA 21 6 8 20 true,gD 22 21 20 true,oW 23 (.pick (.t 20) (.t 22) (oB false)),oM 24 23,gA 25 4 8 24 true,gD 26 25 24 true,gM 27 2 24 true,gW 28 (.call (oF 118) [.t 26,.t 27]) 24 true,oW 29 (.pick (.t 24) (.t 28) (oB false))]
 (.cond (.t 29) (oQ [oW 6 (.move (oB true))]
 .ret) .skip))))
 (.region [oW 30 (.arith .add (.t 12) (oI 1)),oM 12 30]))))
def t36k0:DCode :=
 (oQ [oW 6 (.move (oB false))]
 .ret)
def t36:DFunc:={ntmps:=31,results:=[.t 6],mode:=.pure,body :=
 (oQ [oW 3 (.box 29 6 (.t 0)),oW 4 (.box 37 2 (.t 1)),oW 6 (.move (oB false))]
 (.seq (oQ [oA 9 4 3,oD 10 9,oW 11 (.len 1 (.t 10)),oW 12 (.move (oI 0))]
 (.block 0 (.loop t36l0)))
 t36k0))}
theorem c36:compFunc Tryz.prog Tryz.f36 .pure=some t36:=by kernel_rfl
def t37l0:DCode :=
 (.seq (.seq (.draw [oRA 58 4 2,oRD 59 58,oRM 57 7,oR 60 (.len 1 (.t 59)),oR 61 (.arith .lss (.t 57) (.t 60)),oRM 62 61,rA 63 4 2 62 true,rD 64 63 62 true,rM 65 7 62 true,rW 66 (.indexAddr 7 (.t 64) (.t 65)) 62 true,rA 67 0 66 62 true,rL 68 2 67 62 true,rA 69 0 3 62 true,rL 70 2 69 62 true,gW 71 (.call (oF 76) [.t 68,.t 70]) 62 true,⟨(some 72),.move (.t 71),(some (62,true)),.read,1,false⟩,⟨(some 73),.fieldAddr 4 (.t 2),(some (72,false)),.read,1,false⟩,⟨(some 74),.load none (.t 73),(some (72,false)),.read,1,false⟩,⟨(some 75),.move (.t 7),(some (72,false)),.read,1,false⟩,⟨(some 76),.indexAddr 7 (.t 74) (.t 75),(some (72,false)),.read,1,false⟩,⟨(some 77),.fieldAddr 0 (.t 76),(some (72,false)),.read,1,false⟩,⟨(some 78),.load (some 2) (.t 77),(some (72,false)),.read,1,false⟩,⟨(some 79),.fieldAddr 0 (.t 3),(some (72,false)),.read,1,false⟩,⟨(some 80),.load (some 2) (.t 79),(some (72,false)),.read,1,false⟩,⟨(some 81),.eqa false [1,1] (.t 78) (.t 80),(some (72,false)),.read,1,false⟩,⟨(some 82),.move (.t 81),(some (72,false)),.read,1,false⟩,⟨(some 83),.fieldAddr 4 (.t 2),(some (82,true)),.read,1,false⟩,⟨(some 84),.load none (.t 83),(some (82,true)),.read,1,false⟩,⟨(some 85),.move (.t 7),(some (82,true)),.read,1,false⟩,⟨(some 86),.indexAddr 7 (.t 84) (.t 85),(some (82,true)),.read,1,false⟩,⟨(some 87),.fieldAddr 2 (.t 86),(some (82,true)),.read,1,false⟩,⟨(some 88),.load (some 2) (.t 87),(some (82,true)),.read,1,false⟩,⟨(some 89),.fieldAddr 2 (.t 3),(some (82,true)),.read,1,false⟩,⟨(some 90),.load (some 2) (.t 89),(some (82,true)),.read,1,false⟩,⟨(some 91),.call (oF 76) [.t 88,.t 90],(some (82,true)),.write,1,false⟩,⟨(some 92),.pick (.t 82) (.t 91) (oB false),(some (72,false)),.read,2,false⟩,⟨(some 93),.pick (.t 72) (oB true) (.t 92),(some (62,true)),.read,2,false⟩,nK 94 (.pick (.t 62) (.t 93) (oB false)) .read 2])
 (.cond (.t 94) .skip (.exit 0)))
 (.block 1 (.region [oM 95 7,oW 96 (.arith .add (.t 95) (oI 1)),oM 7 96])))
def t37k0:DCode :=
 (.seq (.draw [oRA 98 4 2,oRD 99 98,oRM 100 7,oR 101 (.sliceSl 7 (.t 99) none (some (.t 100))),nK 97 (.buildSlice 58 7 (.agg [.int .i64 0,.int .i64 0,.int .i64 0,.int .i64 0,.nsl,.int .i64 0,.bool false]) 0 []) .create 0,nK 102 (.append 58 7 72 (.t 97) (.t 101)) .create 0,oRL 103 7 3,nK 104 (.buildSlice 58 7 (.agg [.int .i64 0,.int .i64 0,.int .i64 0,.int .i64 0,.nsl,.int .i64 0,.bool false]) 1 [(0,.t 103)]) .create 0,nK 105 (.append 58 7 72 (.t 102) (.t 104)) .create 0,oRA 106 4 2,oRD 107 106,oRM 108 7,oR 109 (.sliceSl 7 (.t 107) (some (.t 108)) none),nK 110 (.append 58 7 72 (.t 105) (.t 109)) .write 4,nK 111 (.fieldAddr 4 (.t 2)) .read 5,⟨none,.store 1 (.t 111) (.t 110),none,.write,5,false⟩])
 (.seq (.draw [⟨(some 112),.load (some 6) (.t 2),none,.read,0,true⟩,oRA 113 6 3,oRD 114 113,⟨none,.store 6 (.t 4) (.t 112),none,.create,0,false⟩,nK 5 (.move (.t 114)) .read 1])
 .ret))
def t37:DFunc:={ntmps:=115,results:=[(.cell 4 (some 6)),.t 5],mode:=.frz,body :=
 (oQ [oW 2 (.box 29 6 (.t 0)),oW 3 (.box 58 7 (.t 1)),oW 4 (.alloc 29 6 (.agg [.int .i64 0,.nsl,.nsl,.nsl,.nsl,.nsl])),oW 5 (.move (oB false))]
 (oQ [oL 8 6 2,oA 9 0 3,oL 10 2 9,oW 11 (.call (oF 24) [.t 8,.t 10]),oM 6 11]
 (.seq (.seq (.draw [oRM 12 6,oR 13 (.arith .lss (.t 12) (oI 0)),oRM 14 13,rL 15 6 2 14 false,rA 16 0 3 14 false,rL 17 2 16 14 false,rA 18 2 3 14 false,rL 19 2 18 14 false,gW 20 (.call (oF 119) [.t 15,.t 17,.t 19]) 14 false,⟨(some 21),.arith .geq (.t 20) (oI 0),(some (14,false)),.read,1,false⟩,nK 22 (.pick (.t 14) (oB true) (.t 21)) .read 1,nK 23 (.move (.t 22)) .read 1,⟨(some 24),.fieldAddr 5 (.t 3),(some (23,false)),.read,1,false⟩,⟨(some 25),.load none (.t 24),(some (23,false)),.read,1,false⟩,⟨(some 26),.arith .neq (.t 25) (oI (-1)),(some (23,false)),.read,1,false⟩,⟨(some 27),.move (.t 26),(some (23,false)),.read,1,false⟩,⟨(some 28),.fieldAddr 5 (.t 3),(some (27,true)),.read,1,false⟩,⟨(some 29),.load none (.t 28),(some (27,true)),.read,1,false⟩,⟨(some 30),.fieldAddr 2 (.t 2),(some (27,true)),.read,1,false⟩,⟨(some 31),.load none (.t 30),(some (27,true)),.read,1,false⟩,⟨(some 32),.move (.t 6),(some (27,true)),.read,1,false⟩,⟨(some 33),.indexAddr 4 (.t 31) (.t 32),(some (27,true)),.read,1,false⟩,⟨(some 34),.fieldAddr 3 (.t 33),(some (27,true)),.read,1,false⟩,⟨(some 35),.load none (.t 34),(some (27,true)),.read,1,false⟩,⟨(some 36),.arith .eql (.t 29) (.t 35),(some (27,true)),.read,1,false⟩,⟨(some 37),.pick (.t 27) (.t 36) (oB false),(some (23,false)),.read,1,false⟩,nK 38 (.pick (.t 23) (oB true) (.t 37)) .read 1])
 (.cond (.t 38) (oQ [oL 39 6 2,oS 6 4 39,oW 5 (.move (oB false))]
 .ret) .skip))
 (oQ [oA 40 2 2,oD 41 40,oM 42 6,oW 43 (.indexAddr 4 (.t 41) (.t 42)),oA 44 3 43,oD 45 44,oW 46 (.arith .neq (.t 45) (oI (-1))),oM 47 46,gL 48 6 2 47 true,gA 49 0 3 47 true,gL 50 2 49 47 true,gA 51 4 3 47 true,gD 52 51 47 true,gW 53 (.call (oF 36) [.t 48,.t 50,.t 52]) 47 true,gW 54 (.un .not (.t 53)) 47 true,oW 55 (.pick (.t 47) (.t 54) (oB false)),oA 56 6 3,oS 1 56 55]
 (oQ [oW 7 (.move (oI 0))]
 (.seq (.block 0 (.loop t37l0))
 t37k0))))))}
theorem c37:compFunc Tryz.prog Tryz.f37 .frz=some t37:=by kernel_rfl
def t38l0:DCode :=
 (oQ [oW 59 (.arith .lss (.t 58) (.t 57))]
 (.seq (.cond (.t 59) .skip (.exit 0))
 (.seq (.block 1 (oQ [oM 60 58,oM 14 60]
 (oQ [oA 61 4 4,oD 62 61,oM 63 14,oW 64 (.indexAddr 7 (.t 62) (.t 63)),oL 65 7 64,oW 15 (.alloc 58 7 (.agg [.int .i64 0,.int .i64 0,.int .i64 0,.int .i64 0,.nsl,.int .i64 0,.bool false])),oS 7 15 65]
 (oQ [oA 66 0 15,oL 67 2 66,oL 68 2 5,oW 69 (.eqa false [1,1] (.t 67) (.t 68)),oM 70 69,gA 71 6 15 70 true,gD 72 71 70 true,gW 73 (.un .not (.t 72)) 70 true,oW 74 (.pick (.t 70) (.t 73) (oB false)),oM 75 74,gL 76 6 4 75 true,gL 77 2 5 75 true,gA 78 4 15 75 true,gD 79 78 75 true,gW 80 (.call (oF 36) [.t 76,.t 77,.t 79]) 75 true,gW 81 (.un .not (.t 80)) 75 true,oW 82 (.pick (.t 75) (.t 81) (oB false))]
 (.cond (.t 82) (oQ [oW 83 (.buildSlice 58 7 (.agg [.int .i64 0,.int .i64 0,.int .i64 0,.int .i64 0,.nsl,.int .i64 0,.bool false]) 0 []),oA 84 4 4,oD 85 84,oW 86 (.append 58 7 72 (.t 83) (.t 85)),oA 87 4 4,oS 1 87 86]
 (oQ [oA 88 4 4,oD 89 88,oM 90 14,oW 91 (.indexAddr 7 (.t 89) (.t 90)),oA 92 6 91,oZ (.store 1 (.t 92) (oB true))]
 (.region [oM 93 13,oA 94 4 4,oD 95 94,oM 96 14,oW 97 (.indexAddr 7 (.t 95) (.t 96)),oL 98 7 97,oW 99 (.buildSlice 58 7 (.agg [.int .i64 0,.int .i64 0,.int .i64 0,.int .i64 0,.nsl,.int .i64 0,.bool false]) 1 [(0,.t 98)]),oW 100 (.append 58 7 72 (.t 93) (.t 99)),oM 13 100]))) .skip)))))
 (.region [oW 101 (.arith .add (.t 58) (oI 1)),oM 58 101]))))
def t38k0:DCode :=
 (oQ [oL 102 6 4,oM 103 13,oS 6 8 102,oM 9 103,oW 10 (.move (oB true))]
 .ret)
def t38:DFunc:={ntmps:=104,results:=[(.cell 8 (some 6)),.t 9,.t 10],mode:=.frz,body :=
 (oQ [oW 4 (.box 29 6 (.t 0)),oW 5 (.box 37 2 (.t 1)),oW 6 (.box 37 2 (.t 2)),oW 8 (.alloc 29 6 (.agg [.int .i64 0,.nsl,.nsl,.nsl,.nsl,.nsl])),oW 9 (.move (.c .nsl)),oW 10 (.move (oB false))]
 (oQ [oL 16 6 4,oL 17 2 5,oL 18 2 6,oW 19 (.call (oF 119) [.t 16,.t 17,.t 18]),oM 11 19]
 (.seq (oQ [oM 20 11,oW 21 (.arith .lss (.t 20) (oI 0)),oM 22 21,gA 23 4 4 22 false,gD 24 23 22 false,gM 25 11 22 false,gW 26 (.indexAddr 7 (.t 24) (.t 25)) 22 false,gA 27 5 26 22 false,gD 28 27 22 false,gM 29 3 22 false,gW 30 (.arith .neq (.t 28) (.t 29)) 22 false,oW 31 (.pick (.t 22) (oB true) (.t 30))]
 (.cond (.t 31) (oQ [oL 32 6 4,oS 6 8 32,oW 9 (.move (.c .nsl)),oW 10 (.move (oB false))]
 .ret) .skip))
 (oQ [oA 33 4 4,oD 34 33,oM 35 11,oW 36 (.indexAddr 7 (.t 34) (.t 35)),oA 37 6 36,oD 38 37,oM 12 38]
 (.seq (.draw [oRA 40 4 4,oRD 41 40,oRM 42 11,oR 43 (.sliceSl 7 (.t 41) none (some (.t 42))),nK 39 (.buildSlice 58 7 (.agg [.int .i64 0,.int .i64 0,.int .i64 0,.int .i64 0,.nsl,.int .i64 0,.bool false]) 0 []) .create 0,nK 44 (.append 58 7 72 (.t 39) (.t 43)) .create 0,oRA 45 4 4,oRD 46 45,oRM 47 11,oR 48 (.arith .add (.t 47) (oI 1)),oR 49 (.sliceSl 7 (.t 46) (some (.t 48)) none),nK 50 (.append 58 7 72 (.t 44) (.t 49)) .write 2,nK 51 (.fieldAddr 4 (.t 4)) .read 3,⟨none,.store 1 (.t 51) (.t 50),none,.write,3,false⟩])
 (.seq (oQ [oM 52 12,oW 53 (.un .not (.t 52))]
 (.cond (.t 53) (oQ [oL 54 6 4,oS 6 8 54,oW 9 (.move (.c .nsl)),oW 10 (.move (oB false))]
 .ret) .skip))
 (oQ [oW 13 (.move (.c .nsl))]
 (.seq (oQ [oA 55 4 4,oD 56 55,oW 57 (.len 1 (.t 56)),oW 58 (.move (oI 0))]
 (.block 0 (.loop t38l0)))
 t38k0))))))))}
theorem c38:compFunc Tryz.prog Tryz.f38 .frz=some t38:=by kernel_rfl
def t46l0:DCode :=
 (.seq (.seq (.draw [oRA 15 5 3,oRD 16 15,oRM 14 8,oR 17 (.len 1 (.t 16)),oR 18 (.arith .lss (.t 14) (.t 17)),oRM 19 18,rA 20 5 3 19 true,rD 21 20 19 true,rM 22 8 19 true,rW 23 (.indexAddr 3 (.t 21) (.t 22)) 19 true,rA 24 0 23 19 true,rL 25 2 24 19 true,rL 26 2 4 19 true,gW 27 (.call (oF 76) [.t 25,.t 26]) 19 true,nK 28 (.pick (.t 19) (.t 27) (oB false)) .read 1])
 (.cond (.t 28) .skip (.exit 0)))
 (.block 1 (.region [oM 29 8,oW 30 (.arith .add (.t 29) (oI 1)),oM 8 30])))
def t46l1:DCode :=
 (oQ [oW 68 (.arith .lss (.t 67) (.t 66))]
 (.seq (.cond (.t 68) .skip (.exit 2))
 (.seq (.block 3 (oQ [oW 69 (.indexAddr 4 (.t 65) (.t 67)),oL 70 4 69,oW 11 (.alloc 42 4 (.agg [.int .i64 0,.int .i64 0,.nsl,.int .i64 0])),oS 4 11 70]
 (.seq (oQ [oM 71 2,oA 72 2 11,oD 73 72,oW 74 (.call (oF 121) [.t 71,.t 73]),oW 75 (.un .not (.t 74))]
 (.cond (.t 75) (.exit 3) .skip))
 (oQ [oA 76 0 11,oL 77 2 76,oL 78 2 4,oM 79 2,oW 80 (.build [.int .i64 0,.int .i64 0,.int .i64 0,.int .i64 0,.nsl,.int .i64 0,.bool false] [(0,2,.t 77),(2,2,.t 78),(4,1,.t 79),(5,1,(oI (-1)))]),oW 12 (.alloc 58 7 (.agg [.int .i64 0,.int .i64 0,.int .i64 0,.int .i64 0,.nsl,.int .i64 0,.bool false])),oS 7 12 80]
 (oQ [oW 13 (.move (oB false))]
 (oQ [oL 82 6 3,oL 83 7 12,oW 84 (.call (oF 37) [.t 82,.t 83]),oM 81 84,oX 85 81 0,oX 86 81 1,oS 6 3 85,oM 13 86]
 (oQ [oM 87 13]
 (.cond (.t 87) (.draw [oRA 89 3 11,oRD 90 89,oRL 91 7 12,nK 92 (.call (oF 122) [.t 91]) .create 0,oRM 88 9,nK 93 (.build [.int .i64 0,.int .i64 0,.int .i64 0,.int .i64 0,.int .i64 0,.int .i64 0,.nsl,.nsl] [(0,1,.t 90),(1,7,.t 92)]) .read 1,nK 94 (.buildSlice 86 8 (.agg [.int .i64 0,.int .i64 0,.int .i64 0,.int .i64 0,.int .i64 0,.int .i64 0,.nsl,.nsl]) 1 [(0,.t 93)]) .create 0,nK 95 (.append 86 8 96 (.t 88) (.t 94)) .write 2,nK 9 (.move (.t 95)) .read 3]) .skip))))))))
 (.region [oW 96 (.arith .add (.t 67) (oI 1)),oM 67 96]))))
def t46k0:DCode :=
 (oQ [oL 97 6 3,oM 98 9,oS 6 6 97,oM 7 98]
 .ret)
def t46k1:DCode :=
 (.seq (.seq (.draw [oRA 32 5 3,oRD 33 32,oRM 31 8,oR 34 (.len 1 (.t 33)),oR 35 (.arith .lss (.t 31) (.t 34)),oRM 36 35,rA 37 5 3 36 true,rD 38 37 36 true,rM 39 8 36 true,rW 40 (.indexAddr 3 (.t 38) (.t 39)) 36 true,rA 41 0 40 36 true,rL 42 2 41 36 true,rL 43 2 4 36 true,rW 44 (.eqa false [1,1] (.t 42) (.t 43)) 36 true,oR 45 (.pick (.t 36) (.t 44) (oB false))])
 (.cond (.t 45) (oQ [oL 46 6 3,oS 6 6 46,oW 7 (.move (.c .nsl))]
 .ret) .skip))
 (.seq (.draw [oRA 48 5 3,oRD 49 48,oRM 50 8,oR 51 (.sliceSl 3 (.t 49) none (some (.t 50))),nK 47 (.buildSlice 60 3 (.agg [.int .i64 0,.int .i64 0,.nsl]) 0 []) .create 0,nK 52 (.append 60 3 40 (.t 47) (.t 51)) .create 0,oRL 53 2 4,oRM 54 2,oR 55 (.build [.int .i64 0,.int .i64 0,.nsl] [(0,2,.t 53),(2,1,.t 54)]),nK 56 (.buildSlice 60 3 (.agg [.int .i64 0,.int .i64 0,.nsl]) 1 [(0,.t 55)]) .create 0,nK 57 (.append 60 3 40 (.t 52) (.t 56)) .create 0,oRA 58 5 3,oRD 59 58,oRM 60 8,oR 61 (.sliceSl 3 (.t 59) (some (.t 60)) none),nK 62 (.append 60 3 40 (.t 57) (.t 61)) .write 4,nK 63 (.fieldAddr 5 (.t 3)) .read 5,⟨none,.store 1 (.t 63) (.t 62),none,.write,5,false⟩])
 (oQ [oW 9 (.move (.c .nsl))]
 (.seq (oQ [oA 64 2 3,oD 65 64,oW 66 (.len 1 (.t 65)),oW 67 (.move (oI 0))]
 (.block 2 (.loop t46l1)))
 t46k0))))
def t46:DFunc:={ntmps:=99,results:=[(.cell 6 (some 6)),.t 7],mode:=.frz,body :=
 (oQ [oW 3 (.box 29 6 (.t 0)),oW 4 (.box 37 2 (.t 1)),oW 6 (.alloc 29 6 (.agg [.int .i64 0,.nsl,.nsl,.nsl,.nsl,.nsl])),oW 7 (.move (.c .nsl))]
 (oQ [oW 8 (.move (oI 0))]
 (.seq (.block 0 (.loop t46l0))
 t46k1)))}
theorem c46:compFunc Tryz.prog Tryz.f46 .frz=some t46:=by kernel_rfl
def t56:DFunc:={ntmps:=9,results:=[.t 4],mode:=.pure,body :=
 (oQ [oW 2 (.box 37 2 (.t 0)),oW 3 (.box 37 2 (.t 1)),oW 4 (.move (oB false))]
 (oQ [oL 5 2 2,oL 6 2 3,oW 7 (.call (oF 101) [.t 5,.t 6]),oW 8 (.arith .lss (.t 7) (oI 0)),oM 4 8]
 .ret))}
theorem c56:compFunc Tryz.prog Tryz.f56 .pure=some t56:=by kernel_rfl
def t57:DFunc:={ntmps:=14,results:=[.t 4],mode:=.pure,body :=
 (oQ [oW 2 (.box 29 6 (.t 0)),oW 3 (.box 37 2 (.t 1)),oW 4 (.move (oB false))]
 (oQ [oL 8 6 2,oL 9 2 3,oW 10 (.call (oF 71) [.t 8,.t 9]),oM 7 10,oX 11 7 0,oX 12 7 1,oM 5 11,oM 6 12]
 (oQ [oM 13 6,oM 4 13]
 .ret)))}
theorem c57:compFunc Tryz.prog Tryz.f57 .pure=some t57:=by kernel_rfl
def t58:DFunc:={ntmps:=25,results:=[(.cell 6 (some 6)),.t 7],mode:=.frz,body :=
 (oQ [oW 3 (.box 29 6 (.t 0)),oW 5 (.box 37 2 (.t 2)),oW 6 (.alloc 29 6 (.agg [.int .i64 0,.nsl,.nsl,.nsl,.nsl,.nsl])),oW 7 (.move (.c .nsl))]
 (oQ [oL 10 6 3,oL 11 2 5,oM 12 1,oW 13 (.call (oF 22) [.t 10,.t 11,.t 12]),oM 9 13,oX 14 9 0,oX 15 9 1,oS 6 3 14,oM 8 15]
 (.seq (oQ [oM 16 8,oW 17 (.un .not (.t 16))]
 (.cond (.t 17) (oQ [oL 18 6 3,oS 6 6 18,oW 7 (.move (.c .nsl))]
 .ret) .skip))
 (.seq (.draw [oRL 19 6 3,oRL 20 6 3,oRL 22 2 5,oRM 21 1,oR 23 (.build [.int .i64 0,.int .i64 0,.int .i64 0,.int .i64 0,.int .i64 0,.nsl,.nsl] [(0,1,oI 2),(1,2,.t 22)]),nK 24 (.call (oF 131) [.t 20,.t 21,.t 23]) .create 0,⟨none,.store 6 (.t 6) (.t 19),none,.write,1,false⟩,nK 7 (.move (.t 24)) .read 2])
 .ret))))}
theorem c58:compFunc Tryz.prog Tryz.f58 .frz=some t58:=by kernel_rfl
def t59l0:DCode :=
 (oQ [oW 38 (.arith .lss (.t 37) (.t 36))]
 (.seq (.cond (.t 38) .skip (.exit 0))
 (.seq (.block 1 (oQ [oW 39 (.indexAddr 3 (.t 35) (.t 37)),oL 40 3 39,oW 13 (.alloc 60 3 (.agg [.int .i64 0,.int .i64 0,.nsl])),oS 3 13 40]
 (.seq (oQ [oA 41 2 13,oD 42 41,oM 43 3,oW 44 (.call (oF 121) [.t 42,.t 43]),oW 45 (.un .not (.t 44))]
 (.cond (.t 45) (.exit 1) .skip))
 (oQ [oL 46 2 6,oA 47 0 13,oL 48 2 47,oA 49 2 13,oD 50 49,oW 51 (.build [.int .i64 0,.int .i64 0,.int .i64 0,.int .i64 0,.nsl,.int .i64 0,.bool false] [(0,2,.t 46),(2,2,.t 48),(4,1,.t 50),(5,1,(oI (-1)))]),oW 14 (.alloc 58 7 (.agg [.int .i64 0,.int .i64 0,.int .i64 0,.int .i64 0,.nsl,.int .i64 0,.bool false])),oS 7 14 51]
 (oQ [oW 15 (.move (oB false))]
 (oQ [oL 53 6 4,oL 54 7 14,oW 55 (.call (oF 37) [.t 53,.t 54]),oM 52 55,oX 56 52 0,oX 57 52 1,oS 6 4 56,oM 15 57]
 (oQ [oM 58 15]
 (.cond (.t 58) (.region [oM 59 11,oM 60 1,oL 61 7 14,oW 62 (.call (oF 122) [.t 61]),oW 63 (.build [.int .i64 0,.int .i64 0,.int .i64 0,.int .i64 0,.int .i64 0,.int .i64 0,.nsl,.nsl] [(0,1,.t 60),(1,7,.t 62)]),oW 64 (.buildSlice 86 8 (.agg [.int .i64 0,.int .i64 0,.int .i64 0,.int .i64 0,.int .i64 0,.int .i64 0,.nsl,.nsl]) 1 [(0,.t 63)]),oW 65 (.append 86 8 96 (.t 59) (.t 64)),oM 11 65]) .skip))))))))
 (.region [oW 66 (.arith .add (.t 37) (oI 1)),oM 37 66]))))
def t59k0:DCode :=
 (oQ [oL 67 6 4,oM 68 11,oS 6 8 67,oM 9 68]
 .ret)
def t59:DFunc:={ntmps:=69,results:=[(.cell 8 (some 6)),.t 9],mode:=.frz,body :=
 (oQ [oW 4 (.box 29 6 (.t 0)),oW 6 (.box 37 2 (.t 2)),oW 8 (.alloc 29 6 (.agg [.int .i64 0,.nsl,.nsl,.nsl,.nsl,.nsl])),oW 9 (.move (.c .nsl))]
 (oQ [oL 17 6 4,oL 18 2 6,oM 19 3,oM 20 1,oW 21 (.build [.int .i64 0,.int .i64 0,.nsl,.int .i64 0] [(0,2,.t 18),(2,1,.t 19),(3,1,.t 20)]),oW 22 (.call (oF 20) [.t 17,.t 21]),oM 16 22,oX 23 16 0,oX 24 16 1,oS 6 4 23,oM 10 24]
 (.seq (oQ [oM 25 10,oW 26 (.un .not (.t 25))]
 (.cond (.t 26) (oQ [oL 27 6 4,oS 6 8 27,oW 9 (.move (.c .nsl))]
 .ret) .skip))
 (oQ [oL 28 6 4,oM 29 1,oL 30 2 6,oM 31 3,oW 32 (.build [.int .i64 0,.int .i64 0,.int .i64 0,.int .i64 0,.int .i64 0,.nsl,.nsl] [(0,1,oI 1),(1,2,.t 30),(5,1,.t 31)]),oW 33 (.call (oF 131) [.t 28,.t 29,.t 32]),oM 11 33]
 (.seq (oQ [oA 34 5 4,oD 35 34,oW 36 (.len 1 (.t 35)),oW 37 (.move (oI 0))]
 (.block 0 (.loop t59l0)))
 t59k0)))))}
theorem c59:compFunc Tryz.prog Tryz.f59 .frz=some t59:=by kernel_rfl
def t61l0:DCode :=
 (oQ [oW 18 (.arith .lss (.t 17) (.t 16))]
 (.seq (.cond (.t 18) .skip (.exit 0))
 (.seq (.block 1 (oQ [oW 19 (.indexAddr 3 (.t 15) (.t 17)),oL 20 3 19,oW 8 (.alloc 60 3 (.agg [.int .i64 0,.int .i64 0,.nsl])),oS 3 8 20]
 (oQ [oA 21 0 8,oL 22 2 21,oL 23 2 3,oW 24 (.eqa true [1,1] (.t 22) (.t 23))]
 (.cond (.t 24) (.region [oM 25 6,oL 26 3 8,oW 27 (.buildSlice 60 3 (.agg [.int .i64 0,.int .i64 0,.nsl]) 1 [(0,.t 26)]),oW 28 (.append 60 3 40 (.t 25) (.t 27)),oM 6 28]) .skip))))
 (.region [oW 29 (.arith .add (.t 17) (oI 1)),oM 17 29]))))
def t61l1:DCode :=
 (oQ [oW 43 (.arith .lss (.t 42) (.t 41))]
 (.seq (.cond (.t 43) .skip (.exit 2))
 (.seq (.block 3 (oQ [oW 44 (.indexAddr 4 (.t 40) (.t 42)),oL 45 4 44,oW 11 (.alloc 42 4 (.agg [.int .i64 0,.int .i64 0,.nsl,.int .i64 0])),oS 4 11 45]
 (oQ [oL 47 6 2,oA 48 0 11,oL 49 2 48,oL 50 2 3,oW 51 (.call (oF 133) [.t 47,.t 49,.t 50,(oI (-1))]),oM 46 51,oX 52 46 0,oX 53 46 1,oW 12 (.alloc 29 6 (.agg [.int .i64 0,.nsl,.nsl,.nsl,.nsl,.nsl])),oS 6 12 52,oM 13 53]
 (.draw [oRL 54 6 12,nK 55 (.buildSlice 86 8 (.agg [.int .i64 0,.int .i64 0,.int .i64 0,.int .i64 0,.int .i64 0,.int .i64 0,.nsl,.nsl]) 0 []) .create 0,oRM 56 9,nK 57 (.append 86 8 96 (.t 55) (.t 56)) .create 0,oRM 58 13,nK 59 (.append 86 8 96 (.t 57) (.t 58)) .create 0,⟨none,.store 6 (.t 2) (.t 54),none,.write,3,false⟩,nK 9 (.move (.t 59)) .read 4]))))
 (.region [oW 60 (.arith .add (.t 42) (oI 1)),oM 42 60]))))
def t61k0:DCode :=
 (oQ [oL 61 6 2,oM 62 9,oS 6 4 61,oM 5 62]
 .ret)
def t61k1:DCode :=
 (.seq (oQ [oM 30 6,oW 31 (.len 1 (.t 30)),oA 32 5 2,oD 33 32,oW 34 (.len 1 (.t 33)),oW 35 (.arith .eql (.t 31) (.t 34))]
 (.cond (.t 35) (oQ [oL 36 6 2,oS 6 4 36,oW 5 (.move (.c .nsl))]
 .ret) .skip))
 (oQ [oM 37 6,oA 38 5 2,oS 1 38 37]
 (oQ [oW 9 (.move (.c .nsl))]
 (.seq (oQ [oA 39 2 2,oD 40 39,oW 41 (.len 1 (.t 40)),oW 42 (.move (oI 0))]
 (.block 2 (.loop t61l1)))
 t61k0))))
def t61:DFunc:={ntmps:=63,results:=[(.cell 4 (some 6)),.t 5],mode:=.frz,body :=
 (oQ [oW 2 (.box 29 6 (.t 0)),oW 3 (.box 37 2 (.t 1)),oW 4 (.alloc 29 6 (.agg [.int .i64 0,.nsl,.nsl,.nsl,.nsl,.nsl])),oW 5 (.move (.c .nsl))]
 (oQ [oW 6 (.move (.c .nsl))]
 (.seq (oQ [oA 14 5 2,oD 15 14,oW 16 (.len 1 (.t 15)),oW 17 (.move (oI 0))]
 (.block 0 (.loop t61l0)))
 t61k1)))}
theorem c61:compFunc Tryz.prog Tryz.f61 .frz=some t61:=by kernel_rfl
def t62:DFunc:={ntmps:=41,results:=[(.cell 6 (some 6)),.t 7],mode:=.frz,body :=
 (oQ [oW 3 (.box 29 6 (.t 0)),oW 5 (.box 84 7 (.t 2)),oW 6 (.alloc 29 6 (.agg [.int .i64 0,.nsl,.nsl,.nsl,.nsl,.nsl])),oW 7 (.move (.c .nsl))]
 (oQ [oA 10 1 5,oL 11 2 10,oA 12 3 5,oL 13 2 12,oA 14 5 5,oD 15 14,oM 16 1,oW 17 (.build [.int .i64 0,.int .i64 0,.int .i64 0,.int .i64 0,.nsl,.int .i64 0,.bool false] [(0,2,.t 11),(2,2,.t 13),(4,1,.t 15),(5,1,.t 16)]),oW 8 (.alloc 58 7 (.agg [.int .i64 0,.int .i64 0,.int .i64 0,.int .i64 0,.nsl,.int .i64 0,.bool false])),oS 7 8 17]
 (oQ [oL 19 6 3,oL 20 7 8,oW 21 (.call (oF 37) [.t 19,.t 20]),oM 18 21,oX 22 18 0,oX 23 18 1,oS 6 3 22,oM 9 23]
 (.seq (oQ [oM 24 9,oW 25 (.un .not (.t 24))]
 (.cond (.t 25) (oQ [oL 26 6 3,oS 6 6 26,oW 7 (.move (.c .nsl))]
 .ret) .skip))
 (.seq (.draw [oRL 27 6 3,oRA 28 2 3,oRD 29 28,⟨(some 30),.load (some 6) (.t 3),none,.read,0,true⟩,oRA 31 1 5,⟨(some 32),.load (some 2) (.t 31),none,.read,0,true⟩,nK 33 (.call (oF 24) [.t 30,.t 32]) .create 0,nK 34 (.indexAddr 4 (.t 29) (.t 33)) .read 1,nK 35 (.fieldAddr 3 (.t 34)) .read 1,nK 36 (.load none (.t 35)) .read 1,oRL 37 7 8,nK 38 (.call (oF 122) [.t 37]) .create 1,⟨none,.store 6 (.t 6) (.t 27),none,.create,1,false⟩,nK 39 (.build [.int .i64 0,.int .i64 0,.int .i64 0,.int .i64 0,.int .i64 0,.int .i64 0,.nsl,.nsl] [(0,1,.t 36),(1,7,.t 38)]) .read 2,nK 40 (.buildSlice 86 8 (.agg [.int .i64 0,.int .i64 0,.int .i64 0,.int .i64 0,.int .i64 0,.int .i64 0,.nsl,.nsl]) 1 [(0,.t 39)]) .create 0,nK 7 (.move (.t 40)) .read 4])
 .ret)))))}
theorem c62:compFunc Tryz.prog Tryz.f62 .frz=some t62:=by kernel_rfl
def t63:DFunc:={ntmps:=17,results:=[(.cell 6 (some 6)),.t 7],mode:=.frz,body :=
 (oQ [oW 3 (.box 29 6 (.t 0)),oW 5 (.box 84 7 (.t 2)),oW 6 (.alloc 29 6 (.agg [.int .i64 0,.nsl,.nsl,.nsl,.nsl,.nsl])),oW 7 (.move (.c .nsl))]
 (oQ [oL 8 6 3,oA 9 1 5,oL 10 2 9,oA 11 3 5,oL 12 2 11,oM 13 1,oW 14 (.call (oF 133) [.t 8,.t 10,.t 12,.t 13]),oX 15 14 0,oX 16 14 1,oS 6 6 15,oM 7 16]
 .ret))}
theorem c63:compFunc Tryz.prog Tryz.f63 .frz=some t63:=by kernel_rfl
def t65:DFunc:={ntmps:=11,results:=[],mode:=.full,body :=
 (oQ [oM 3 0,oW 4 (.len 1 (.t 3)),oM 2 4]
 (.region [oM 5 0,oM 6 2,oM 7 2,oW 8 (.conv .u64 (.t 7)),oW 9 (.call (oF 135) [.t 8]),oW 10 (.call (oF 134) [.t 5,oI 0,.t 6,.t 9])]))}
theorem c65:compFunc Tryz.prog Tryz.f65 .full=some t65:=by kernel_rfl
def t66l0:DCode :=
 (.seq (oQ [oM 29 5,oM 30 4,oW 31 (.len 1 (.t 30)),oW 32 (.arith .lss (.t 29) (.t 31))]
 (.cond (.t 32) .skip (.exit 2)))
 (.seq (.block 3 (.seq (.draw [oRM 35 4,oRM 36 5,oR 37 (.indexAddr 1 (.t 35) (.t 36)),oRD 38 37,oRM 39 4,oRM 40 5,oR 41 (.arith .sub (.t 40) (oI 1)),oR 42 (.indexAddr 1 (.t 39) (.t 41)),oRD 43 42,oR 44 (.arith .neq (.t 38) (.t 43))])
 (.cond (.t 44) (oQ [oM 45 0,oM 46 3,oM 47 4,oM 48 5,oW 49 (.indexAddr 1 (.t 47) (.t 48)),oD 50 49,oW 51 (.indexAddr 1 (.t 45) (.t 46)),oS 1 51 50]
 (.region [oM 52 3,oW 53 (.arith .add (.t 52) (oI 1)),oM 3 53])) .skip)))
 (.region [oM 33 5,oW 34 (.arith .add (.t 33) (oI 1)),oM 5 34])))
def t66k0:DCode :=
 (oQ [oM 54 0,oM 55 3,oW 56 (.sliceSl 1 (.t 54) (some (.t 55)) none),oZ (.clear 1 (.int .i64 0) (.t 56))]
 (oQ [oM 57 0,oM 58 3,oW 59 (.sliceSl 1 (.t 57) none (some (.t 58))),oM 2 59]
 .ret))
def t66k1:DCode :=
 (.region [oM 14 3,oW 15 (.arith .add (.t 14) (oI 1)),oM 3 15])
def t66l1:DCode :=
 (.seq (oQ [oM 10 3,oM 11 0,oW 12 (.len 1 (.t 11)),oW 13 (.arith .lss (.t 10) (.t 12))]
 (.cond (.t 13) .skip (.exit 0)))
 (.seq (.block 1 (.seq (.draw [oRM 16 0,oRM 17 3,oR 18 (.indexAddr 1 (.t 16) (.t 17)),oRD 19 18,oRM 20 0,oRM 21 3,oR 22 (.arith .sub (.t 21) (oI 1)),oR 23 (.indexAddr 1 (.t 20) (.t 22)),oRD 24 23,oR 25 (.arith .eql (.t 19) (.t 24))])
 (.cond (.t 25) (oQ [oM 26 0,oM 27 3,oW 28 (.sliceSl 1 (.t 26) (some (.t 27)) none),oM 4 28]
 (.seq (oQ [oW 5 (.move (oI 1))]
 (.block 2 (.loop t66l0)))
 t66k0)) .skip)))
 t66k1))
def t66k2:DCode :=
 (oQ [oM 60 0,oM 2 60]
 .ret)
def t66:DFunc:={ntmps:=61,results:=[.t 2],mode:=.full,body :=
 (oQ [oW 2 (.move (.c .nsl))]
 (.seq (oQ [oM 6 0,oW 7 (.len 1 (.t 6)),oW 8 (.arith .lss (.t 7) (oI 2))]
 (.cond (.t 8) (oQ [oM 9 0,oM 2 9]
 .ret) .skip))
 (.seq (oQ [oW 3 (.move (oI 1))]
 (.block 0 (.loop t66l1)))
 t66k2)))}
theorem c66:compFunc Tryz.prog Tryz.f66 .full=some t66:=by kernel_rfl
def t67:DFunc:={ntmps:=2,results:=[.t 0],mode:=.pure,body :=
 (oQ [oW 0 (.move (.c .nsl))]
 (oQ [oW 1 (.buildSlice 9 1 (.str []) 7 [(0,(.c (.str [97]))),(1,(.c (.str [98]))),(2,(.c (.str [99]))),(3,(.c (.str [100]))),(4,(.c (.str [101]))),(5,(.c (.str [102]))),(6,(.c (.str [103])))]),oM 0 1]
 .ret))}
theorem c67:compFunc Tryz.prog Tryz.f67 .pure=some t67:=by kernel_rfl
def t68:DFunc:={ntmps:=44,results:=[(.cell 4 (some 5))],mode:=.pure,body :=
 (oQ [oW 4 (.alloc 62 5 (.agg [.str [],.int .i64 0,.int .i64 0,.int .i64 0,.str []]))]
 (oQ [oM 6 0,oW 7 (.build [.str [],.int .i64 0,.int .i64 0,.int .i64 0,.str []] [(0,1,.t 6)]),oW 5 (.alloc 62 5 (.agg [.str [],.int .i64 0,.int .i64 0,.int .i64 0,.str []])),oS 5 5 7]
 (.seq (oQ [oM 8 1,oW 9 (.call (oF 16) [.t 8,oI 0,oI 3])]
 (.block 0 (.seq (oQ [oW 19 (.arith .eql (.t 9) (oI 0)),oM 18 19]
 (.cond (.t 18) .skip (.region [oW 20 (.arith .eql (.t 9) (oI 1)),oM 18 20])))
 (.cond (.t 18) (oQ [oM 21 1,oW 22 (.arith .quo (.t 21) (oI 4)),oW 23 (.call (oF 16) [.t 22,oI 0,oI 9]),oA 24 1 5,oZ (.store 1 (.t 24) (oI 1)),oA 25 2 5,oS 1 25 23]
 (.draw [oRA 26 2 5,oRD 27 26,oRM 28 1,oR 29 (.arith .quo (.t 28) (oI 40)),nK 30 (.call (oF 16) [.t 29,oI 0,oI 9]) .create 0,nK 31 (.arith .add (.t 27) (.t 30)) .read 1,nK 32 (.fieldAddr 3 (.t 5)) .read 1,⟨none,.store 1 (.t 32) (.t 31),none,.write,1,false⟩])) (oQ [oW 34 (.arith .eql (.t 9) (oI 2)),oM 33 34]
 (.cond (.t 33) (.draw [oW 35 (.call (oF 136) []),oRM 36 1,oR 37 (.arith .quo (.t 36) (oI 4)),nK 38 (.call (oF 16) [.t 37,oI 0,oI 6]) .write 1,nK 39 (.indexAddr 1 (.t 35) (.t 38)) .read 2,nK 40 (.load none (.t 39)) .read 2,oRA 41 1 5,⟨none,.store 1 (.t 41) (oI 2),none,.create,2,false⟩,nK 42 (.fieldAddr 4 (.t 5)) .read 3,⟨none,.store 1 (.t 42) (.t 40),none,.write,3,false⟩]) (.draw [oW 10 (.call (oF 136) []),oRM 11 1,oR 12 (.arith .quo (.t 11) (oI 4)),nK 13 (.call (oF 16) [.t 12,oI 0,oI 6]) .write 1,nK 14 (.indexAddr 1 (.t 10) (.t 13)) .read 2,nK 15 (.load none (.t 14)) .read 2,oRA 16 1 5,⟨none,.store 1 (.t 16) (oI 3),none,.create,2,false⟩,nK 17 (.fieldAddr 4 (.t 5)) .read 3,⟨none,.store 1 (.t 17) (.t 15),none,.write,3,false⟩])))))))
 (oQ [oL 43 5 5,oS 5 4 43]
 .ret))))}
theorem c68:compFunc Tryz.prog Tryz.f68 .pure=some t68:=by kernel_rfl
def t69:DFunc:={ntmps:=15,results:=[.t 4],mode:=.pure,body :=
 (oQ [oW 4 (.move (oI 0))]
 (.seq (oQ [oM 5 0,oW 6 (.len 1 (.t 5)),oW 7 (.arith .eql (.t 6) (oI 0))]
 (.cond (.t 7) (oQ [oW 4 (.move (oI 0))]
 .ret) .skip))
 (oQ [oM 8 0,oM 9 1,oM 10 0,oW 11 (.len 1 (.t 10)),oW 12 (.arith .rem (.t 9) (.t 11)),oW 13 (.indexAddr 1 (.t 8) (.t 12)),oD 14 13,oM 4 14]
 .ret)))}
theorem c69:compFunc Tryz.prog Tryz.f69 .pure=some t69:=by kernel_rfl
def t70:DFunc:={ntmps:=24,results:=[(.cell 2 (some 6))],mode:=.full,body :=
 (oQ [oW 1 (.box 29 6 (.t 0)),oW 2 (.alloc 29 6 (.agg [.int .i64 0,.nsl,.nsl,.nsl,.nsl,.nsl]))]
 (.seq (.draw [oRA 3 1 1,oRD 4 3,nK 5 (.call (oF 64) [.t 4]) .create 0,oRA 6 2 1,oRD 7 6,nK 8 (.call (oF 137) [.t 7]) .create 0,oRA 9 3 1,oRD 10 9,nK 11 (.call (oF 138) [.t 10]) .create 0,oRA 12 4 1,oRD 13 12,nK 14 (.call (oF 112) [.t 13]) .create 0,oRA 15 5 1,oRD 16 15,nK 17 (.call (oF 126) [.t 16]) .write 4,nK 18 (.fieldAddr 1 (.t 1)) .read 1,⟨none,.store 1 (.t 18) (.t 5),none,.write,5,false⟩,nK 19 (.fieldAddr 2 (.t 1)) .read 6,⟨none,.store 1 (.t 19) (.t 8),none,.write,6,false⟩,nK 20 (.fieldAddr 3 (.t 1)) .read 7,⟨none,.store 1 (.t 20) (.t 11),none,.write,7,false⟩,nK 21 (.fieldAddr 4 (.t 1)) .read 8,⟨none,.store 1 (.t 21) (.t 14),none,.write,8,false⟩,nK 22 (.fieldAddr 5 (.t 1)) .read 9,⟨none,.store 1 (.t 22) (.t 17),none,.write,9,false⟩])
 (oQ [oL 23 6 1,oS 6 2 23]
 .ret)))}
theorem c70:compFunc Tryz.prog Tryz.f70 .full=some t70:=by kernel_rfl
def t71:DFunc:={ntmps:=12,results:=[.t 4,.t 5],mode:=.pure,body :=
 (oQ [oW 2 (.box 29 6 (.t 0)),oW 3 (.box 37 2 (.t 1)),oW 4 (.move (oI 0)),oW 5 (.move (oB false))]
 (oQ [oA 6 3 2,oD 7 6,oL 8 2 3,oW 9 (.call (oF 139) [.t 7,.t 8,oF 101]),oX 10 9 0,oX 11 9 1,oM 4 10,oM 5 11]
 .ret))}
theorem c71:compFunc Tryz.prog Tryz.f71 .pure=some t71:=by kernel_rfl
def t72:DFunc:={ntmps:=12,results:=[.t 4,.t 5],mode:=.pure,body :=
 (oQ [oW 2 (.box 29 6 (.t 0)),oW 3 (.box 37 2 (.t 1)),oW 4 (.move (oI 0)),oW 5 (.move (oB false))]
 (oQ [oA 6 2 2,oD 7 6,oL 8 2 3,oW 9 (.call (oF 140) [.t 7,.t 8,oF 141]),oX 10 9 0,oX 11 9 1,oM 4 10,oM 5 11]
 .ret))}
theorem c72:compFunc Tryz.prog Tryz.f72 .pure=some t72:=by kernel_rfl
def t73:DFunc:={ntmps:=95,results:=[.t 6],mode:=.split,body :=
 (oQ [oW 6 (.move (.c .nsl))]
 (oQ [oM 10 0,oM 11 1,oW 12 (.sliceSl 4 (.t 10) (some (.t 11)) none)]
 (oQ [oM 13 2,oW 14 (.len 1 (.t 13)),oM 7 14]
 (.seq (oQ [oM 15 7,oW 16 (.arith .eql (.t 15) (oI 0))]
 (.cond (.t 16) (oQ [oM 17 0,oM 6 17]
 .ret) .skip))
 (oQ [oM 18 0,oW 19 (.len 1 (.t 18)),oM 8 19]
 (.seq (oQ [oM 20 1,oM 21 8,oW 22 (.arith .eql (.t 20) (.t 21))]
 (.cond (.t 22) (oQ [oM 23 0,oM 24 2,oW 25 (.append 42 4 48 (.t 23) (.t 24)),oM 6 25]
 .ret) .skip))
 (.seq (oQ [oM 26 8,oM 27 7,oW 28 (.arith .add (.t 26) (.t 27)),oM 29 0,oW 30 (.cap (.t 29)),oW 31 (.arith .gtr (.t 28) (.t 30))]
 (.cond (.t 31) (oQ [oM 32 0,oM 33 1,oW 34 (.sliceSl 4 (.t 32) none (some (.t 33))),oM 35 8,oM 36 7,oW 37 (.arith .add (.t 35) (.t 36)),oM 38 1,oW 39 (.arith .sub (.t 37) (.t 38)),oW 40 (.appendZ 42 4 48 (.agg [.int .i64 0,.int .i64 0,.nsl,.int .i64 0]) (.t 34) (.t 39)),oM 9 40]
 (oQ [oM 41 9,oM 42 1,oW 43 (.sliceSl 4 (.t 41) (some (.t 42)) none),oM 44 2,oW 45 (.copy 4 (.t 43) (.t 44))]
 (.seq (.draw [oRM 46 9,oRM 47 1,oRM 48 7,oR 49 (.arith .add (.t 47) (.t 48)),oR 50 (.sliceSl 4 (.t 46) (some (.t 49)) none),oRM 51 0,oRM 52 1,oR 53 (.sliceSl 4 (.t 51) (some (.t 52)) none),oW 54 (.copy 4 (.t 50) (.t 53))])
 (oQ [oM 55 9,oM 6 55]
 .ret)))) .skip))
 (oQ [oM 56 0,oM 57 8,oM 58 7,oW 59 (.arith .add (.t 57) (.t 58)),oW 60 (.sliceSl 4 (.t 56) none (some (.t 59))),oM 0 60]
 (.seq (oQ [oM 61 2,oM 62 0,oM 63 1,oM 64 7,oW 65 (.arith .add (.t 63) (.t 64)),oW 66 (.sliceSl 4 (.t 62) (some (.t 65)) none),oW 67 (.call (oF 142) [.t 61,.t 66]),oW 68 (.un .not (.t 67))]
 (.cond (.t 68) (.seq (.draw [oRM 69 0,oRM 70 1,oRM 71 7,oR 72 (.arith .add (.t 70) (.t 71)),oR 73 (.sliceSl 4 (.t 69) (some (.t 72)) none),oRM 74 0,oRM 75 1,oR 76 (.sliceSl 4 (.t 74) (some (.t 75)) none),oW 77 (.copy 4 (.t 73) (.t 76))])
 (oQ [oM 78 0,oM 79 1,oW 80 (.sliceSl 4 (.t 78) (some (.t 79)) none),oM 81 2,oW 82 (.copy 4 (.t 80) (.t 81))]
 (oQ [oM 83 0,oM 6 83]
 .ret))) .skip))
 (oQ [oM 84 0,oM 85 8,oW 86 (.sliceSl 4 (.t 84) (some (.t 85)) none),oM 87 2,oW 88 (.copy 4 (.t 86) (.t 87))]
 (oQ [oM 89 0,oM 90 1,oW 91 (.sliceSl 4 (.t 89) (some (.t 90)) none),oM 92 7,oW 93 (.call (oF 143) [.t 91,.t 92])]
 (oQ [oM 94 0,oM 6 94]
 .ret))))))))))))}
theorem c73:compFunc Tryz.prog Tryz.f73 .split=some t73:=by kernel_rfl
end Go.Dm.Tc
