/- A part of the proof. -/
import Derived.Test.YtloabemenciijaaGreatDoorMm4
import Derived.Test.YtloabemenciijaaGreatDoorRows
import Derived.KernelRfl
namespace Go.Dm.Tc
open Go.Proofs
abbrev oQ(l:List aH)(c:aG):aG:=.seq (.region l) c
abbrev gW(d:Nat)(op:DOp)(g:Nat)(b:Bool):aH:=⟨some d,op,some (g,b),.write,0,false⟩
abbrev gM(d x g:Nat)(b:Bool):aH:=⟨some d,.move (.t x),some (g,b),.write,0,false⟩
abbrev gA(d o x g:Nat)(b:Bool):aH:=⟨some d,.fieldAddr o (.t x),some (g,b),.write,0,false⟩
abbrev gD(d x g:Nat)(b:Bool):aH:=⟨some d,.load none (.t x),some (g,b),.write,0,false⟩
abbrev gL(d n x g:Nat)(b:Bool):aH:=⟨some d,.load (some n) (.t x),some (g,b),.write,0,false⟩
abbrev rW(d:Nat)(op:DOp)(g:Nat)(b:Bool):aH:=⟨some d,op,some (g,b),.read,0,false⟩
abbrev rM(d x g:Nat)(b:Bool):aH:=⟨some d,.move (.t x),some (g,b),.read,0,false⟩
abbrev rA(d o x g:Nat)(b:Bool):aH:=⟨some d,.fieldAddr o (.t x),some (g,b),.read,0,false⟩
abbrev rD(d x g:Nat)(b:Bool):aH:=⟨some d,.load none (.t x),some (g,b),.read,0,false⟩
abbrev rL(d n x g:Nat)(b:Bool):aH:=⟨some d,.load (some n) (.t x),some (g,b),.read,0,false⟩
abbrev nK(d:Nat)(op:DOp)(k:nB)(s:Nat):aH:=⟨some d,op,none,k,s,false⟩
def t7:aD:={ntmps:=45,results:=[.t 0],mode:=.pure,body :=
 (oQ [oW 0 (.move (oB false))]
 (oQ [oW 6 (.build [.int .i64 0,.int .i64 0] [(0,1,oI 0),(1,1,oI 1)]),oW 7 (.buildSlice 90 2 (.agg [.int .i64 0,.int .i64 0]) 1 [(0,.t 6)]),oW 8 (.build [.int .i64 0,.nsl] [(0,1,oI 2),(1,1,.t 7)]),oW 1 (.alloc 79 2 (.agg [.int .i64 0,.nsl])),oS 2 1 8]
 (oQ [oL 10 2 1,oW 11 (.call (oF 32) [.t 10]),oM 9 11,oX 12 9 0,oX 13 9 1,oM 2 12,oM 3 13]
 (.seq (oQ [oM 14 2,oW 15 (.eqn 0 false (.t 14) (.c .nilp)),oM 16 15,gM 17 3 16 false,gW 18 (.eqn 4 true (.t 17) (.c .nili)) 16 false,oW 19 (.pick (.t 16) (oB true) (.t 18))]
 (.cond (.t 19) (oQ [oW 0 (.move (oB false))]
 .ret) .skip))
 (oQ [oM 20 2,oW 21 (.build [.int .i64 0,.int .i64 0,.int .i64 0,.int .i64 0,.int .i64 0,.int .i64 0,.nsl,.nsl,.nsl] [(0,1,oI 1)]),oW 22 (.call (oF 37) [.t 20,.t 21])]
 (oQ [oM 23 2,oW 24 (.build [.int .i64 0,.int .i64 0,.int .i64 0,.int .i64 0,.int .i64 0,.int .i64 0,.nsl,.nsl,.nsl] [(0,1,oI 2)]),oW 25 (.call (oF 37) [.t 23,.t 24])]
 (oQ [oM 26 2,oW 27 (.call (oF 38) [.t 26]),oM 4 27]
 (oQ [oM 28 2,oW 29 (.call (oF 39) [.t 28,.c .nsl]),oM 5 29]
 (oQ [oM 30 4,oW 31 (.un .not (.t 30)),oM 32 31,gM 33 5 32 true,gW 34 (.arith .eql (.t 33) (oI 1)) 32 true,oW 35 (.pick (.t 32) (.t 34) (oB false)),oM 36 35,gM 37 2 36 true,gW 38 (.call (oF 38) [.t 37]) 36 true,oW 39 (.pick (.t 36) (.t 38) (oB false)),oM 40 39,gL 41 2 1 40 true,gW 42 (.call (oF 40) [.t 41,oI 1,oI 0,oI 0]) 40 true,gW 43 (.arith .eql (.t 42) (oI 4)) 40 true,oW 44 (.pick (.t 40) (.t 43) (oB false)),oM 0 44]
 .ret)))))))))}
theorem c7:aB Tryz.prog Tryz.f7 .pure=some t7:=by kernel_rfl
def t8:aD:={ntmps:=108,results:=[.t 8],mode:=.pure,body :=
 (oQ [oW 4 (.box 100 3 (.t 0)),oW 8 (.move (oB false))]
 (oQ [oL 15 3 4,oW 16 (.call (oF 41) [.t 15]),oW 9 (.alloc 79 2 (.agg [.int .i64 0,.nsl])),oS 2 9 16]
 (oQ [oM 17 1,oW 18 (.call (oF 13) [.t 17,oI 0,oI 400]),oM 19 2,oW 20 (.call (oF 13) [.t 19,oI 0,oI 400]),oM 21 3,oW 22 (.call (oF 13) [.t 21,oI 0,oI 400]),oM 10 18,oM 11 20,oM 12 22]
 (oQ [oL 23 2 9,oW 24 (.call (oF 42) [.t 23]),oW 25 (.len 1 (.t 24)),oM 13 25]
 (oQ [oL 26 2 9,oM 27 10,oM 28 11,oM 29 12,oW 30 (.call (oF 40) [.t 26,.t 27,.t 28,.t 29]),oM 14 30]
 (.seq (.draw [oRL 32 2 9,oRM 33 10,nK 34 (.call (oF 40) [.t 32,.t 33,oI 0,oI 0]) .create 0,oRL 35 2 9,oRM 36 10,oRM 37 11,nK 38 (.call (oF 40) [.t 35,.t 36,.t 37,oI 0]) .create 0,oRL 40 2 9,oRM 41 10,nK 42 (.call (oF 40) [.t 40,.t 41,oI 0,oI 0]) .create 0,oRL 44 2 9,oRM 45 12,nK 46 (.call (oF 40) [.t 44,oI 0,oI 0,.t 45]) .write 3,oRM 31 14,nK 39 (.arith .add (.t 34) (.t 38)) .read 2,nK 43 (.arith .sub (.t 39) (.t 42)) .read 3,nK 47 (.arith .add (.t 43) (.t 46)) .read 4,nK 48 (.arith .eql (.t 31) (.t 47)) .read 4,nK 49 (.move (.t 48)) .read 4,⟨(some 50),.load (some 2) (.t 9),(some (49,true)),.read,4,false⟩,⟨(some 51),.move (.t 11),(some (49,true)),.read,4,false⟩,⟨(some 52),.call (oF 40) [.t 50,oI 0,.t 51,oI 0],(some (49,true)),.write,4,false⟩,⟨(some 53),.arith .eql (.t 52) (oI 0),(some (49,true)),.read,5,false⟩,nK 54 (.pick (.t 49) (.t 53) (oB false)) .read 5,nK 55 (.move (.t 54)) .read 5,⟨(some 56),.load (some 2) (.t 9),(some (55,true)),.read,5,false⟩,⟨(some 57),.call (oF 40) [.t 56,oI 1,oI 0,oI 0],(some (55,true)),.write,5,false⟩,⟨(some 58),.move (.t 13),(some (55,true)),.read,5,false⟩,⟨(some 59),.arith .mul (oI 2) (.t 58),(some (55,true)),.read,5,false⟩,⟨(some 60),.arith .eql (.t 57) (.t 59),(some (55,true)),.read,6,false⟩,nK 61 (.pick (.t 55) (.t 60) (oB false)) .read 6,nK 62 (.move (.t 61)) .read 6,⟨(some 63),.load (some 2) (.t 9),(some (62,true)),.read,6,false⟩,⟨(some 64),.call (oF 40) [.t 63,oI 1,oI 1,oI 0],(some (62,true)),.create,6,false⟩,⟨(some 67),.fieldAddr 0 (.t 9),(some (62,true)),.read,6,false⟩,⟨(some 68),.load none (.t 67),(some (62,true)),.read,6,false⟩,⟨(some 65),.move (.t 13),(some (62,true)),.read,6,false⟩,⟨(some 66),.arith .mul (oI 2) (.t 65),(some (62,true)),.read,6,false⟩,⟨(some 69),.arith .mul (oI 2) (.t 68),(some (62,true)),.read,6,false⟩,⟨(some 70),.arith .add (.t 66) (.t 69),(some (62,true)),.read,6,false⟩,⟨(some 71),.arith .eql (.t 64) (.t 70),(some (62,true)),.read,7,false⟩,nK 72 (.pick (.t 62) (.t 71) (oB false)) .read 7,nK 73 (.move (.t 72)) .read 7,⟨(some 74),.load (some 2) (.t 9),(some (73,true)),.read,7,false⟩,⟨(some 75),.move (.t 10),(some (73,true)),.read,7,false⟩,⟨(some 76),.arith .add (.t 75) (oI 1),(some (73,true)),.read,7,false⟩,⟨(some 77),.move (.t 11),(some (73,true)),.read,7,false⟩,⟨(some 78),.move (.t 12),(some (73,true)),.read,7,false⟩,⟨(some 79),.call (oF 40) [.t 74,.t 76,.t 77,.t 78],(some (73,true)),.write,7,false⟩,⟨(some 80),.move (.t 14),(some (73,true)),.read,7,false⟩,⟨(some 81),.arith .geq (.t 79) (.t 80),(some (73,true)),.read,8,false⟩,nK 82 (.pick (.t 73) (.t 81) (oB false)) .read 8,nK 83 (.move (.t 82)) .read 8,⟨(some 84),.load (some 2) (.t 9),(some (83,true)),.read,8,false⟩,⟨(some 85),.move (.t 10),(some (83,true)),.read,8,false⟩,⟨(some 86),.move (.t 11),(some (83,true)),.read,8,false⟩,⟨(some 87),.arith .add (.t 86) (oI 1),(some (83,true)),.read,8,false⟩,⟨(some 88),.move (.t 12),(some (83,true)),.read,8,false⟩,⟨(some 89),.call (oF 40) [.t 84,.t 85,.t 87,.t 88],(some (83,true)),.write,8,false⟩,⟨(some 90),.move (.t 14),(some (83,true)),.read,8,false⟩,⟨(some 91),.arith .geq (.t 89) (.t 90),(some (83,true)),.read,9,false⟩,nK 92 (.pick (.t 83) (.t 91) (oB false)) .read 9,nK 93 (.move (.t 92)) .read 9,⟨(some 94),.load (some 2) (.t 9),(some (93,true)),.read,9,false⟩,⟨(some 95),.move (.t 10),(some (93,true)),.read,9,false⟩,⟨(some 96),.move (.t 11),(some (93,true)),.read,9,false⟩,⟨(some 97),.move (.t 12),(some (93,true)),.read,9,false⟩,⟨(some 98),.arith .add (.t 97) (oI 1),(some (93,true)),.read,9,false⟩,⟨(some 99),.call (oF 40) [.t 94,.t 95,.t 96,.t 98],(some (93,true)),.write,9,false⟩,⟨(some 100),.move (.t 14),(some (93,true)),.read,9,false⟩,⟨(some 101),.move (.t 13),(some (93,true)),.read,9,false⟩,⟨(some 102),.arith .add (.t 100) (.t 101),(some (93,true)),.read,9,false⟩,⟨(some 103),.arith .eql (.t 99) (.t 102),(some (93,true)),.read,10,false⟩,nK 104 (.pick (.t 93) (.t 103) (oB false)) .read 10,nK 105 (.move (.t 104)) .read 10,⟨(some 106),.call (oF 7) [],(some (105,true)),.write,10,false⟩,nK 107 (.pick (.t 105) (.t 106) (oB false)) .read 11,nK 8 (.move (.t 107)) .read 11])
 .ret))))))}
theorem c8:aB Tryz.prog Tryz.f8 .pure=some t8:=by kernel_rfl
def t13:aD:={ntmps:=24,results:=[.t 6],mode:=.pure,body :=
 (oQ [oW 6 (.move (oI 0))]
 (oQ [oM 7 0,oM 8 2,oM 9 1,oW 10 (.arith .sub (.t 8) (.t 9)),oW 11 (.arith .add (.t 10) (oI 1)),oW 12 (.arith .rem (.t 7) (.t 11)),oM 0 12]
 (.seq (oQ [oM 13 0,oW 14 (.arith .lss (.t 13) (oI 0))]
 (.cond (.t 14) (.region [oM 15 0,oM 16 2,oW 17 (.arith .add (.t 15) (.t 16)),oM 18 1,oW 19 (.arith .sub (.t 17) (.t 18)),oW 20 (.arith .add (.t 19) (oI 1)),oM 0 20]) .skip))
 (oQ [oM 21 1,oM 22 0,oW 23 (.arith .add (.t 21) (.t 22)),oM 6 23]
 .ret))))}
theorem c13:aB Tryz.prog Tryz.f13 .pure=some t13:=by kernel_rfl
def t18:aD:={ntmps:=8,results:=[.t 2],mode:=.pure,body :=
 (oQ [oW 2 (.move (oI 0))]
 (oQ [oW 3 (.alloc 57 1 (.int .i64 0))]
 (.seq (oQ [oM 4 0,oW 5 (.makeIface 154 (.t 3)),oW 6 (.call (oF 75) [.t 4,.t 5])]
 (.cond (.t 6) (oQ [oD 7 3,oM 2 7]
 .ret) .skip))
 (oQ [oW 2 (.move (oI 0))]
 .ret))))}
theorem c18:aB Tryz.prog Tryz.f18 .pure=some t18:=by kernel_rfl
def t23:aD:={ntmps:=68,results:=[(.cell 6 (some 6)),.t 7,.t 8],mode:=.frz,body :=
 (oQ [oW 3 (.box 37 6 (.t 0)),oW 5 (.box 49 7 (.t 2)),oW 6 (.alloc 37 6 (.agg [.int .i64 0,.nsl,.nsl,.nsl,.nsl,.nsl])),oW 7 (.move (.c .nsl)),oW 8 (.move (.c .nsl))]
 (oQ [oW 9 (.move (.c .nsl))]
 (.seq (oQ [oA 12 0 5,oD 13 12]
 (.block 0 (oQ [oW 15 (.arith .eql (.t 13) (oI 1)),oM 14 15]
 (.cond (.t 14) (.region [oL 17 6 3,oM 18 1,oA 19 1 5,oL 20 2 19,oA 21 5 5,oD 22 21,oW 23 (.call (oF 78) [.t 17,.t 18,.t 20,.t 22]),oM 16 23,oX 24 16 0,oX 25 16 1,oS 6 3 24,oM 9 25]) (oQ [oW 27 (.arith .eql (.t 13) (oI 2)),oM 26 27]
 (.cond (.t 26) (.region [oL 29 6 3,oM 30 1,oA 31 1 5,oL 32 2 31,oW 33 (.call (oF 79) [.t 29,.t 30,.t 32]),oM 28 33,oX 34 28 0,oX 35 28 1,oS 6 3 34,oM 9 35]) (oQ [oW 37 (.arith .eql (.t 13) (oI 3)),oM 36 37]
 (.cond (.t 36) (.region [oL 39 6 3,oM 40 1,oL 41 7 5,oW 42 (.call (oF 80) [.t 39,.t 40,.t 41]),oM 38 42,oX 43 38 0,oX 44 38 1,oS 6 3 43,oM 9 44]) (oQ [oW 46 (.arith .eql (.t 13) (oI 4)),oM 45 46]
 (.cond (.t 45) (.region [oL 48 6 3,oM 49 1,oL 50 7 5,oW 51 (.call (oF 81) [.t 48,.t 49,.t 50]),oM 47 51,oX 52 47 0,oX 53 47 1,oS 6 3 52,oM 9 53]) (oQ [oW 55 (.arith .eql (.t 13) (oI 5)),oM 54 55]
 (.cond (.t 54) (oQ [oL 57 6 3,oM 58 1,oL 59 7 5,oW 60 (.call (oF 82) [.t 57,.t 58,.t 59]),oM 56 60,oX 61 56 0,oX 62 56 1,oM 10 61,oM 11 62]
 (oQ [oL 63 6 3,oM 64 10,oM 65 11,oS 6 6 63,oM 7 64,oM 8 65]
 .ret)) .skip))))))))))))
 (oQ [oL 66 6 3,oM 67 9,oS 6 6 66,oM 7 67,oW 8 (.move (.c .nsl))]
 .ret))))}
theorem c23:aB Tryz.prog Tryz.f23 .frz=some t23:=by kernel_rfl
def t28:aD:={ntmps:=31,results:=[(.cell 2 (some 7)),.t 3],mode:=.pure,body :=
 (oQ [oW 2 (.alloc 49 7 (.agg [.int .i64 0,.int .i64 0,.int .i64 0,.int .i64 0,.int .i64 0,.nsl,.nsl])),oW 3 (.move (.c .nili))]
 (oQ [oM 6 0,oW 7 (.call (oF 92) [.t 6]),oM 4 7]
 (oQ [oM 8 4,oW 9 (.call (oF 93) [.t 8]),oW 5 (.alloc 49 7 (.agg [.int .i64 0,.int .i64 0,.int .i64 0,.int .i64 0,.int .i64 0,.nsl,.nsl])),oS 7 5 9]
 (.seq (oQ [oM 10 4,oW 11 (.call (oF 94) [.t 10]),oW 12 (.un .not (.t 11)),oM 13 12,gL 14 7 5 13 false,gW 15 (.call (oF 63) [.t 14]) 13 false,gW 16 (.un .not (.t 15)) 13 false,oW 17 (.pick (.t 13) (oB true) (.t 16)),oM 18 17,gL 19 7 5 18 false,gW 20 (.call (oF 65) [.t 19]) 18 false,gM 21 0 18 false,gW 22 (.call (oF 95) [.t 20,.t 21]) 18 false,gW 23 (.un .not (.t 22)) 18 false,oW 24 (.pick (.t 18) (oB true) (.t 23))]
 (.cond (.t 24) (oQ [oW 25 (.build [.int .i64 0,.int .i64 0,.int .i64 0,.int .i64 0,.int .i64 0,.nsl,.nsl] []),oM 26 0,oW 27 (.len 1 (.t 26)),oW 28 (.makeIface 57 (oI 1)),oW 29 (.call (oF 64) [(.c (.str [119,105,114,101])),.t 27,.t 28]),oS 7 2 25,oM 3 29]
 .ret) .skip))
 (oQ [oL 30 7 5,oS 7 2 30,oW 3 (.move (.c .nili))]
 .ret)))))}
theorem c28:aB Tryz.prog Tryz.f28 .pure=some t28:=by kernel_rfl
def t32:aD:={ntmps:=19,results:=[.t 2,.t 3],mode:=.full,body :=
 (oQ [oW 1 (.box 79 2 (.t 0)),oW 2 (.move (.c .nilp)),oW 3 (.move (.c .nili))]
 (oQ [oL 7 2 1,oW 8 (.call (oF 43) [.t 7]),oM 6 8,oX 9 6 0,oX 10 6 1,oM 4 9,oM 5 10]
 (.seq (oQ [oM 11 5,oW 12 (.eqn 4 true (.t 11) (.c .nili))]
 (.cond (.t 12) (oQ [oM 13 5,oW 14 (.call (oF 64) [(.c (.str [119,111,114,108,100])),(oI (-1)),.t 13]),oW 2 (.move (.c .nilp)),oM 3 14]
 .ret) .skip))
 (oQ [oM 15 4,oW 16 (.call (oF 119) []),oW 17 (.build [.nilp,.nsl,.nilp,.int .i64 0,.nili] [(0,1,.t 15),(2,1,.t 16)]),oW 18 (.box 205 5 (.t 17)),oM 2 18,oW 3 (.move (.c .nili))]
 .ret))))}
theorem c32:aB Tryz.prog Tryz.f32 .full=some t32:=by kernel_rfl
def t37:aD:={ntmps:=26,results:=[(.cell 4 (some 7))],mode:=.full,body :=
 (oQ [oW 3 (.box 95 9 (.t 1)),oW 4 (.alloc 92 7 (.agg [.int .i64 0,.int .i64 0,.int .i64 0,.int .i64 0,.int .i64 0,.int .i64 0,.nsl]))]
 (oQ [oM 8 0,oL 9 9 3,oW 10 (.call (oF 125) [.t 8,.t 9]),oM 7 10,oX 11 7 0,oX 12 7 1,oW 5 (.alloc 92 7 (.agg [.int .i64 0,.int .i64 0,.int .i64 0,.int .i64 0,.int .i64 0,.int .i64 0,.nsl])),oS 7 5 11,oM 6 12]
 (oQ [oM 13 0,oA 14 0 3,oD 15 14,oM 16 6,oW 17 (.call (oF 64) [(.c (.str [119,111,114,108,100])),.t 15,.t 16]),oW 18 (.nilCheck (.t 13)),oA 19 4 18,oS 1 19 17]
 (.seq (oQ [oM 20 6,oW 21 (.eqn 4 true (.t 20) (.c .nili))]
 (.cond (.t 21) (oQ [oM 22 6,oW 23 (.call (oF 18) [.t 22]),oW 24 (.build [.int .i64 0,.int .i64 0,.int .i64 0,.int .i64 0,.int .i64 0,.int .i64 0,.nsl] [(0,1,.t 23)]),oS 7 4 24]
 .ret) .skip))
 (oQ [oL 25 7 5,oS 7 4 25]
 .ret)))))}
theorem c37:aB Tryz.prog Tryz.f37 .full=some t37:=by kernel_rfl
def t38:aD:={ntmps:=8,results:=[.t 2],mode:=.full,body :=
 (oQ [oW 2 (.move (oB false))]
 (oQ [oM 3 0,oW 4 (.call (oF 120) [.t 3]),oW 5 (.call (oF 46) [.t 4]),oW 6 (.len 1 (.t 5)),oW 7 (.arith .eql (.t 6) (oI 0)),oM 2 7]
 .ret))}
theorem c38:aB Tryz.prog Tryz.f38 .full=some t38:=by kernel_rfl
def LU:aG :=
 (.seq (oQ [oM 6 0,oM 7 1,oM 8 5,oW 9 (.call (oF 126) [.t 6,.t 7,.t 8])]
 (.cond (.t 9) .skip (.exit 0)))
 (.block 1 (.region [oM 10 5,oW 11 (.arith .add (.t 10) (oI 1)),oM 5 11])))
def LV:aG :=
 (oQ [oM 12 5,oM 4 12]
 .ret)
def t39:aD:={ntmps:=13,results:=[.t 4],mode:=.full,body :=
 (oQ [oW 4 (.move (oI 0))]
 (oQ [oW 5 (.move (oI 0))]
 (.seq (.block 0 (.loop LU))
 LV)))}
theorem c39:aB Tryz.prog Tryz.f39 .full=some t39:=by kernel_rfl
def t40:aD:={ntmps:=29,results:=[.t 8],mode:=.pure,body :=
 (oQ [oW 4 (.box 79 2 (.t 0)),oW 8 (.move (oI 0))]
 (oQ [oL 10 2 4,oW 11 (.call (oF 42) [.t 10]),oW 12 (.len 1 (.t 11)),oM 9 12]
 (oQ [oM 13 1,oW 14 (.arith .mul (oI 2) (.t 13)),oM 15 9,oW 16 (.arith .mul (.t 14) (.t 15)),oM 17 1,oW 18 (.arith .mul (oI 2) (.t 17)),oM 19 2,oW 20 (.arith .mul (.t 18) (.t 19)),oA 21 0 4,oD 22 21,oW 23 (.arith .mul (.t 20) (.t 22)),oW 24 (.arith .add (.t 16) (.t 23)),oM 25 3,oM 26 9,oW 27 (.arith .mul (.t 25) (.t 26)),oW 28 (.arith .add (.t 24) (.t 27)),oM 8 28]
 .ret)))}
theorem c40:aB Tryz.prog Tryz.f40 .pure=some t40:=by kernel_rfl
def Tq:aG :=
 (.seq (oQ [oM 14 6,oA 15 0 3,oD 16 15,oW 17 (.arith .lss (.t 14) (.t 16))]
 (.cond (.t 17) .skip (.exit 0)))
 (.seq (.block 1 (.region [oM 20 5,oM 21 6,oA 22 1 1,oD 23 22,oM 24 6,oW 25 (.call (oF 128) [.t 23,.t 24]),oM 26 6,oW 27 (.arith .sub (.t 26) (oI 1)),oW 28 (.call (oF 13) [.t 25,oI 0,.t 27]),oW 29 (.call (.t 20) [.t 21,.t 28])]))
 (.region [oM 18 6,oW 19 (.arith .add (.t 18) (oI 1)),oM 6 19])))
def Tp:aG :=
 (.seq (oQ [oM 30 7,oA 31 2 1,oD 32 31,oW 33 (.len 1 (.t 32)),oW 34 (.arith .lss (.t 30) (.t 33)),oM 35 34,gM 36 7 35 true,gW 37 (.arith .lss (.t 36) (oI 8)) 35 true,oW 38 (.pick (.t 35) (.t 37) (oB false))]
 (.cond (.t 38) .skip (.exit 2)))
 (.seq (.block 3 (.draw [oRA 42 2 1,oRD 43 42,oRM 44 7,oR 45 (.indexAddr 1 (.t 43) (.t 44)),oRD 46 45,oRA 47 0 3,oRD 48 47,oR 49 (.arith .sub (.t 48) (oI 1)),nK 50 (.call (oF 13) [.t 46,oI 0,.t 49]) .create 0,oRA 51 2 1,oRD 52 51,oRM 53 7,oR 54 (.indexAddr 1 (.t 52) (.t 53)),oRD 55 54,oRA 57 0 3,oRD 58 57,oR 56 (.arith .quo (.t 55) (oI 8)),oR 59 (.arith .sub (.t 58) (oI 1)),nK 60 (.call (oF 13) [.t 56,oI 0,.t 59]) .write 1,oRM 41 5,nK 61 (.call (.t 41) [.t 50,.t 60]) .write 2]))
 (.region [oM 39 7,oW 40 (.arith .add (.t 39) (oI 1)),oM 7 40])))
def Ts:aG :=
 (oQ [oL 62 2 3,oS 2 2 62]
 .ret)
def Tr:aG :=
 (.seq (oQ [oW 7 (.move (oI 0))]
 (.block 2 (.loop Tp)))
 Ts)
def t41:aD:={ntmps:=63,results:=[(.cell 2 (some 2))],mode:=.pure,body :=
 (oQ [oW 1 (.box 100 3 (.t 0)),oW 2 (.alloc 79 2 (.agg [.int .i64 0,.nsl]))]
 (oQ [oA 8 0 1,oD 9 8,oW 10 (.call (oF 13) [.t 9,oI 1,oI 7]),oW 11 (.build [.int .i64 0,.nsl] [(0,1,.t 10)]),oW 3 (.alloc 79 2 (.agg [.int .i64 0,.nsl])),oS 2 3 11]
 (oQ [oW 12 (.makeMap),oW 4 (.alloc 216 1 .nmap),oS 1 4 12]
 (oQ [oW 13 (.makeFunc 127 [.t 4,.t 3]),oM 5 13]
 (.seq (oQ [oW 6 (.move (oI 1))]
 (.block 0 (.loop Tq)))
 Tr)))))}
theorem c41:aB Tryz.prog Tryz.f41 .pure=some t41:=by kernel_rfl
def To:aG :=
 (oQ [oW 10 (.arith .lss (.t 9) (.t 8))]
 (.seq (.cond (.t 10) .skip (.exit 0))
 (.seq (.block 1 (oQ [oW 11 (.indexAddr 2 (.t 7) (.t 9)),oL 12 2 11,oW 5 (.alloc 90 2 (.agg [.int .i64 0,.int .i64 0])),oS 2 5 12]
 (oQ [oL 13 2 1,oL 14 2 5,oW 15 (.call (oF 129) [.t 13,.t 14])]
 (.cond (.t 15) (.region [oM 16 3,oL 17 2 5,oW 18 (.indexArr 2 1 (.t 5) (oI 1)),oD 19 18,oW 20 (.indexArr 2 1 (.t 5) (oI 0)),oD 21 20,oW 22 (.build [.int .i64 0,.int .i64 0] [(0,1,.t 19),(1,1,.t 21)]),oW 23 (.buildSlice 90 2 (.agg [.int .i64 0,.int .i64 0]) 2 [(0,.t 17),(1,.t 22)]),oW 24 (.append 90 2 16 (.t 16) (.t 23)),oM 3 24]) .skip))))
 (.region [oW 25 (.arith .add (.t 9) (oI 1)),oM 9 25]))))
def It:aG :=
 (oQ [oM 26 3,oW 27 (.call (oF 130) [.t 26,oF 131])]
 (oQ [oM 28 3,oW 29 (.call (oF 133) [.t 28]),oM 2 29]
 .ret))
def t42:aD:={ntmps:=30,results:=[.t 2],mode:=.pure,body :=
 (oQ [oW 1 (.box 79 2 (.t 0)),oW 2 (.move (.c .nsl))]
 (oQ [oW 3 (.move (.c .nsl))]
 (.seq (oQ [oA 6 1 1,oD 7 6,oW 8 (.len 1 (.t 7)),oW 9 (.move (oI 0))]
 (.block 0 (.loop To)))
 It)))}
theorem c42:aB Tryz.prog Tryz.f42 .pure=some t42:=by kernel_rfl
def LR:aG :=
 (oQ [oW 22 (.arith .lss (.t 21) (.t 20))]
 (.seq (.cond (.t 22) .skip (.exit 0))
 (.seq (.block 1 (oQ [oM 23 21,oM 6 23]
 (.draw [oRM 25 5,oR 26 (.nilCheck (.t 25)),oRA 27 2 26,oRD 28 27,oRL 30 2 1,oRM 31 6,nK 32 (.call (oF 137) [.t 30,.t 31]) .create 0,oRM 29 6,nK 33 (.call (oF 77) [.t 29,.t 32]) .create 0,nK 34 (.buildSlice 37 6 (.agg [.int .i64 0,.nsl,.nsl,.nsl,.nsl,.nsl]) 1 [(0,.t 33)]) .create 0,nK 35 (.append 37 6 128 (.t 28) (.t 34)) .write 3,oRM 24 5,nK 36 (.nilCheck (.t 24)) .read 4,nK 37 (.fieldAddr 2 (.t 36)) .read 4,⟨none,.store 1 (.t 37) (.t 35),none,.write,4,false⟩])))
 (.region [oW 38 (.arith .add (.t 21) (oI 1)),oM 21 38]))))
def LT:aG :=
 (oQ [oM 39 5,oM 2 39,oW 3 (.move (.c .nili))]
 .ret)
def t43:aD:={ntmps:=40,results:=[.t 2,.t 3],mode:=.full,body :=
 (oQ [oW 1 (.box 79 2 (.t 0)),oW 2 (.move (.c .nilp)),oW 3 (.move (.c .nili))]
 (.seq (oQ [oL 7 2 1,oW 8 (.call (oF 134) [.t 7]),oM 4 8]
 (oQ [oM 9 4,oW 10 (.eqn 4 true (.t 9) (.c .nili))]
 (.cond (.t 10) (oQ [oM 11 4,oW 12 (.call (oF 64) [(.c (.str [110,101,116])),(oI (-1)),.t 11]),oW 2 (.move (.c .nilp)),oM 3 12]
 .ret) .skip)))
 (.seq (.draw [oRL 13 2 1,nK 14 (.call (oF 135) [.t 13]) .create 0,oRL 15 2 1,nK 16 (.call (oF 136) [.t 15]) .write 1,nK 17 (.build [.int .i64 0,.nsl,.nsl,.nilp,.nsl] [(0,2,.t 14),(3,1,.t 16)]) .read 2,nK 18 (.box 230 5 (.t 17)) .write 2,nK 5 (.move (.t 18)) .read 3])
 (.seq (oQ [oA 19 0 1,oD 20 19,oW 21 (.move (oI 0))]
 (.block 0 (.loop LR)))
 LT))))}
theorem c43:aB Tryz.prog Tryz.f43 .full=some t43:=by kernel_rfl
def t44:aD:={ntmps:=13,results:=[.t 8],mode:=.full,body :=
 (oQ [oW 6 (.box 45 2 (.t 2)),oW 7 (.box 46 1 (.t 3)),oW 8 (.move (.c .nili))]
 (oQ [oM 9 0,oM 10 1,oW 11 (.makeFunc 139 [.t 6,.t 7]),oW 12 (.call (oF 138) [.t 9,.t 10,.t 11]),oM 8 12]
 .ret))}
theorem c44:aB Tryz.prog Tryz.f44 .full=some t44:=by kernel_rfl
def t46:aD:={ntmps:=8,results:=[.t 2],mode:=.full,body :=
 (oQ [oW 2 (.move (.c .nsl))]
 (oQ [oM 3 0,oW 4 (.nilCheck (.t 3)),oA 5 3 4,oD 6 5,oW 7 (.call (oF 142) [.t 6]),oM 2 7]
 .ret))}
theorem c46:aB Tryz.prog Tryz.f46 .full=some t46:=by kernel_rfl
def t48:aD:={ntmps:=54,results:=[.t 6,.t 7],mode:=.full,body :=
 (oQ [oW 6 (.move (.c .nsl)),oW 7 (.move (.c .nili))]
 (oQ [oM 14 0,oW 15 (.nilCheck (.t 14)),oA 16 3 15,oD 17 16,oM 18 1,oM 19 2,oW 20 (.call (oF 144) [.t 17,.t 18,.t 19]),oM 13 20,oX 21 13 0,oX 22 13 1,oW 8 (.alloc 49 7 (.agg [.int .i64 0,.int .i64 0,.int .i64 0,.int .i64 0,.int .i64 0,.nsl,.nsl])),oS 7 8 21,oM 9 22]
 (.seq (oQ [oM 23 9,oW 24 (.eqn 4 true (.t 23) (.c .nili))]
 (.cond (.t 24) (oQ [oM 25 1,oM 26 9,oW 27 (.call (oF 64) [(.c (.str [110,101,116])),.t 25,.t 26]),oW 6 (.move (.c .nsl)),oM 7 27]
 .ret) .skip))
 (.seq (.draw [oRM 29 0,oR 30 (.nilCheck (.t 29)),oRA 31 2 30,oRD 32 31,oRM 33 2,oR 34 (.indexAddr 6 (.t 32) (.t 33)),oRL 35 6 34,oRL 37 7 8,oRM 36 1,oW 38 (.call (oF 23) [.t 35,.t 36,.t 37]),nK 28 (.move (.t 38)) .read 1,nK 39 (.extract (.t 28) 0) .read 1,nK 10 (.alloc 37 6 (.agg [.int .i64 0,.nsl,.nsl,.nsl,.nsl,.nsl])) .create 0,⟨none,.store 6 (.t 10) (.t 39),none,.write,2,false⟩,nK 40 (.extract (.t 28) 1) .read 1,nK 41 (.extract (.t 28) 2) .read 1,nK 11 (.move (.t 40)) .read 3,nK 12 (.move (.t 41)) .read 3])
 (.seq (.draw [oRM 42 0,oR 43 (.nilCheck (.t 42)),oRA 44 2 43,oRD 45 44,oRL 47 6 10,oRM 46 2,oR 48 (.indexAddr 6 (.t 45) (.t 46)),oS 6 48 47])
 (oQ [oM 49 0,oM 50 2,oM 51 11,oW 52 (.call (oF 145) [.t 49,.t 50,.t 51])]
 (oQ [oM 53 12,oM 6 53,oW 7 (.move (.c .nili))]
 .ret)))))))}
theorem c48:aB Tryz.prog Tryz.f48 .full=some t48:=by kernel_rfl
def t49:aD:={ntmps:=22,results:=[(.cell 4 (some 4)),.t 5],mode:=.pure,body :=
 (oQ [oW 2 (.box 37 6 (.t 0)),oW 3 (.box 45 2 (.t 1)),oW 4 (.alloc 86 4 (.agg [.int .i64 0,.int .i64 0,.nsl,.int .i64 0])),oW 5 (.move (oB false))]
 (oQ [oL 9 6 2,oL 10 2 3,oW 11 (.call (oF 146) [.t 9,.t 10]),oM 8 11,oX 12 8 0,oX 13 8 1,oM 6 12,oM 7 13]
 (.seq (oQ [oM 14 7,oW 15 (.un .not (.t 14))]
 (.cond (.t 15) (oQ [oW 16 (.build [.int .i64 0,.int .i64 0,.nsl,.int .i64 0] []),oS 4 4 16,oW 5 (.move (oB false))]
 .ret) .skip))
 (oQ [oA 17 2 2,oD 18 17,oM 19 6,oW 20 (.indexAddr 4 (.t 18) (.t 19)),oL 21 4 20,oS 4 4 21,oW 5 (.move (oB true))]
 .ret))))}
theorem c49:aB Tryz.prog Tryz.f49 .pure=some t49:=by kernel_rfl
def t55:aD:={ntmps:=13,results:=[.t 8],mode:=.full,body :=
 (oQ [oW 6 (.box 45 2 (.t 2)),oW 7 (.box 46 1 (.t 3)),oW 8 (.move (.c .nili))]
 (oQ [oM 9 0,oM 10 1,oW 11 (.makeFunc 154 [.t 6,.t 7]),oW 12 (.call (oF 138) [.t 9,.t 10,.t 11]),oM 8 12]
 .ret))}
theorem c55:aB Tryz.prog Tryz.f55 .full=some t55:=by kernel_rfl
def t56:aD:={ntmps:=20,results:=[.t 10,.t 11],mode:=.full,body :=
 (oQ [oW 7 (.box 45 2 (.t 2)),oW 8 (.box 45 2 (.t 3)),oW 9 (.box 47 1 (.t 4)),oW 10 (.move (.c .nsl)),oW 11 (.move (.c .nili))]
 (oQ [oW 12 (.alloc 53 1 .nsl)]
 (oQ [oM 14 0,oM 15 1,oW 16 (.makeFunc 156 [.t 7,.t 8,.t 9,.t 12]),oW 17 (.call (oF 138) [.t 14,.t 15,.t 16]),oM 13 17]
 (oQ [oD 18 12,oM 19 13,oM 10 18,oM 11 19]
 .ret))))}
theorem c56:aB Tryz.prog Tryz.f56 .full=some t56:=by kernel_rfl
def t58:aD:={ntmps:=25,results:=[.t 2],mode:=.full,body :=
 (oQ [oW 2 (.move (.c .nilp))]
 (.seq (.draw [oRM 3 0,oR 4 (.nilCheck (.t 3)),oRA 5 0 4,oRL 6 2 5,nK 7 (.call (oF 135) [.t 6]) .create 0,oRM 8 0,oR 9 (.nilCheck (.t 8)),oRA 10 2 9,oRD 11 10,nK 12 (.call (oF 158) [.t 11]) .create 0,oRM 13 0,oR 14 (.nilCheck (.t 13)),oRA 15 3 14,oRD 16 15,nK 17 (.call (oF 159) [.t 16]) .create 0,oRM 18 0,oR 19 (.nilCheck (.t 18)),oRA 20 4 19,oRD 21 20,nK 22 (.call (oF 153) [.t 21]) .write 3,nK 23 (.build [.int .i64 0,.nsl,.nsl,.nilp,.nsl] [(0,2,.t 7),(2,1,.t 12),(3,1,.t 17),(4,1,.t 22)]) .read 4,nK 24 (.box 230 5 (.t 23)) .write 4,nK 2 (.move (.t 24)) .read 5])
 .ret))}
theorem c58:aB Tryz.prog Tryz.f58 .full=some t58:=by kernel_rfl
def t63:aD:={ntmps:=63,results:=[.t 2],mode:=.pure,body :=
 (oQ [oW 1 (.box 49 7 (.t 0)),oW 2 (.move (oB false))]
 (oQ [oA 6 0 1,oD 7 6,oW 8 (.call (oF 167) [.t 7]),oM 5 8,oX 9 5 0,oX 10 5 1,oM 3 9,oM 4 10]
 (.seq (.block 0 (oQ [oM 12 4,oW 13 (.un .not (.t 12)),oM 14 13,gA 15 1 1 14 false,gL 16 2 15 14 false,gW 17 (.call (oF 168) [.t 16]) 14 false,gW 18 (.un .not (.t 17)) 14 false,oW 19 (.pick (.t 14) (oB true) (.t 18)),oM 20 19,gA 21 5 1 20 false,gD 22 21 20 false,gW 23 (.call (oF 112) [.t 22]) 20 false,gW 24 (.un .not (.t 23)) 20 false,oW 25 (.pick (.t 20) (oB true) (.t 24)),oM 26 25,gA 27 6 1 26 false,gD 28 27 26 false,gW 29 (.call (oF 169) [.t 28]) 26 false,gW 30 (.un .not (.t 29)) 26 false,oW 31 (.pick (.t 26) (oB true) (.t 30)),oM 11 31]
 (.cond (.t 11) (oQ [oW 2 (.move (oB false))]
 .ret) (.seq (oQ [oM 33 3,oW 34 (.arith .and (.t 33) (oI 1)),oW 35 (.arith .eql (.t 34) (oI 0)),oM 36 35,gA 37 3 1 36 true,gL 38 2 37 36 true,gW 39 (.build [.int .i64 0,.int .i64 0] []) 36 true,gW 40 (.eqa true [1,1] (.t 38) (.t 39)) 36 true,oW 41 (.pick (.t 36) (.t 40) (oB false)),oM 32 41]
 (.cond (.t 32) .skip (oQ [oM 42 3,oW 43 (.arith .and (.t 42) (oI 2)),oW 44 (.arith .eql (.t 43) (oI 0)),oM 45 44,gA 46 5 1 45 true,gD 47 46 45 true,gW 48 (.len 1 (.t 47)) 45 true,gW 49 (.arith .gtr (.t 48) (oI 0)) 45 true,oW 50 (.pick (.t 45) (.t 49) (oB false)),oM 32 50]
 (.cond (.t 32) .skip (.region [oM 51 3,oW 52 (.arith .and (.t 51) (oI 4)),oW 53 (.arith .eql (.t 52) (oI 0)),oM 54 53,gA 55 6 1 54 true,gD 56 55 54 true,gW 57 (.len 1 (.t 56)) 54 true,gW 58 (.arith .gtr (.t 57) (oI 0)) 54 true,oW 59 (.pick (.t 54) (.t 58) (oB false)),oM 32 59])))))
 (.cond (.t 32) (oQ [oW 2 (.move (oB false))]
 .ret) .skip)))))
 (oQ [oA 60 3 1,oL 61 2 60,oW 62 (.call (oF 168) [.t 61]),oM 2 62]
 .ret))))}
theorem c63:aB Tryz.prog Tryz.f63 .pure=some t63:=by kernel_rfl
def t64:aD:={ntmps:=15,results:=[.t 6],mode:=.pure,body :=
 (oQ [oW 6 (.move (.c .nili))]
 (.seq (oQ [oM 7 2,oW 8 (.eqn 4 false (.t 7) (.c .nili))]
 (.cond (.t 8) (oQ [oW 6 (.move (.c .nili))]
 .ret) .skip))
 (oQ [oM 9 0,oM 10 1,oM 11 2,oW 12 (.build [.str [],.int .i64 0,.nili] [(0,1,.t 9),(1,1,.t 10),(2,1,.t 11)]),oW 13 (.box 159 3 (.t 12)),oW 14 (.makeIface 157 (.t 13)),oM 6 14]
 .ret)))}
theorem c64:aB Tryz.prog Tryz.f64 .pure=some t64:=by kernel_rfl
def LO:aG :=
 (oQ [oW 46 (.arith .lss (.t 45) (.t 44))]
 (.seq (.cond (.t 46) .skip (.exit 0))
 (.seq (.block 1 (oQ [oW 47 (.indexAddr 5 (.t 43) (.t 45)),oL 48 5 47,oW 7 (.alloc 119 5 (.agg [.str [],.int .i64 0,.int .i64 0,.int .i64 0,.str []])),oS 5 7 48]
 (.region [oM 49 5,oL 50 5 7,oW 51 (.call (oF 171) [.t 50]),oW 52 (.append 5 1 1 (.t 49) (.t 51)),oM 5 52])))
 (.region [oW 53 (.arith .add (.t 45) (oI 1)),oM 45 53]))))
def LN:aG :=
 (oQ [oW 68 (.arith .lss (.t 67) (.t 66))]
 (.seq (.cond (.t 68) .skip (.exit 2))
 (.seq (.block 3 (oQ [oW 69 (.indexAddr 4 (.t 65) (.t 67)),oL 70 4 69,oW 9 (.alloc 176 4 (.agg [.str [],.bool false,.int .i64 0,.str []])),oS 4 9 70]
 (.region [oM 71 5,oL 72 4 9,oW 73 (.call (oF 172) [.t 72]),oW 74 (.append 5 1 1 (.t 71) (.t 73)),oM 5 74])))
 (.region [oW 75 (.arith .add (.t 67) (oI 1)),oM 67 75]))))
def LQ:aG :=
 (oQ [oM 76 5,oM 2 76]
 .ret)
def LP:aG :=
 (.seq (oQ [oM 54 3,oW 55 (.arith .and (.t 54) (oI 4)),oW 56 (.arith .neq (.t 55) (oI 0))]
 (.cond (.t 56) (oQ [oM 57 5,oA 58 6 1,oD 59 58,oW 60 (.len 1 (.t 59)),oW 61 (.conv .u8 (.t 60)),oW 62 (.buildSlice 5 1 (.int .u8 0) 1 [(0,.t 61)]),oW 63 (.append 5 1 1 (.t 57) (.t 62)),oM 5 63]
 (oQ [oA 64 6 1,oD 65 64,oW 66 (.len 1 (.t 65)),oW 67 (.move (oI 0))]
 (.block 2 (.loop LN)))) .skip))
 LQ)
def t65:aD:={ntmps:=77,results:=[.t 2],mode:=.pure,body :=
 (oQ [oW 1 (.box 49 7 (.t 0)),oW 2 (.move (.c .nsl))]
 (oQ [oA 11 0 1,oD 12 11,oW 13 (.call (oF 167) [.t 12]),oM 10 13,oX 14 10 0,oX 15 10 1,oM 3 14,oM 4 15]
 (.seq (.draw [oRA 16 0 1,oRD 17 16,oRA 20 1 1,oRL 21 2 20,nK 22 (.call (oF 170) [.t 21]) .create 0,oR 18 (.conv .u8 (.t 17)),nK 19 (.buildSlice 5 1 (.int .u8 0) 1 [(0,.t 18)]) .create 0,nK 23 (.append 5 1 1 (.t 19) (.t 22)) .write 2,nK 5 (.move (.t 23)) .read 3])
 (.seq (oQ [oM 24 3,oW 25 (.arith .and (.t 24) (oI 1)),oW 26 (.arith .neq (.t 25) (oI 0))]
 (.cond (.t 26) (.region [oM 27 5,oA 28 3 1,oL 29 2 28,oW 30 (.call (oF 170) [.t 29]),oW 31 (.append 5 1 1 (.t 27) (.t 30)),oM 5 31]) .skip))
 (.seq (oQ [oM 32 3,oW 33 (.arith .and (.t 32) (oI 2)),oW 34 (.arith .neq (.t 33) (oI 0))]
 (.cond (.t 34) (oQ [oM 35 5,oA 36 5 1,oD 37 36,oW 38 (.len 1 (.t 37)),oW 39 (.conv .u8 (.t 38)),oW 40 (.buildSlice 5 1 (.int .u8 0) 1 [(0,.t 39)]),oW 41 (.append 5 1 1 (.t 35) (.t 40)),oM 5 41]
 (oQ [oA 42 5 1,oD 43 42,oW 44 (.len 1 (.t 43)),oW 45 (.move (oI 0))]
 (.block 0 (.loop LO)))) .skip))
 LP)))))}
theorem c65:aB Tryz.prog Tryz.f65 .pure=some t65:=by kernel_rfl
def t77:aD:={ntmps:=14,results:=[(.cell 4 (some 6))],mode:=.pure,body :=
 (oQ [oW 4 (.alloc 37 6 (.agg [.int .i64 0,.nsl,.nsl,.nsl,.nsl,.nsl]))]
 (oQ [oM 6 1,oW 7 (.call (oF 148) [.t 6]),oM 5 7]
 (oQ [oM 8 5,oW 9 (.call (oF 178) [.t 8])]
 (oQ [oM 10 0,oM 11 5,oW 12 (.call (oF 179) [.t 11]),oW 13 (.build [.int .i64 0,.nsl,.nsl,.nsl,.nsl,.nsl] [(0,1,.t 10),(1,1,.t 12)]),oS 6 4 13]
 .ret))))}
theorem c77:aB Tryz.prog Tryz.f77 .pure=some t77:=by kernel_rfl
def LL:aG :=
 (oQ [oW 39 (.arith .lss (.t 38) (.t 37))]
 (.seq (.cond (.t 39) .skip (.exit 0))
 (.seq (.block 1 (oQ [oW 40 (.indexAddr 3 (.t 36) (.t 38)),oL 41 3 40,oW 14 (.alloc 151 3 (.agg [.int .i64 0,.int .i64 0,.nsl])),oS 3 14 41]
 (.seq (oQ [oA 42 2 14,oD 43 42,oM 44 3,oW 45 (.call (oF 182) [.t 43,.t 44]),oW 46 (.un .not (.t 45))]
 (.cond (.t 46) (.exit 1) .skip))
 (oQ [oL 47 2 6,oA 48 0 14,oL 49 2 48,oA 50 2 14,oD 51 50,oW 52 (.build [.int .i64 0,.int .i64 0,.int .i64 0,.int .i64 0,.nsl,.int .i64 0,.bool false] [(0,2,.t 47),(2,2,.t 49),(4,1,.t 51),(5,1,(oI (-1)))]),oW 15 (.alloc 88 7 (.agg [.int .i64 0,.int .i64 0,.int .i64 0,.int .i64 0,.nsl,.int .i64 0,.bool false])),oS 7 15 52]
 (oQ [oW 16 (.move (oB false))]
 (oQ [oL 54 6 10,oL 55 7 15,oW 56 (.call (oF 183) [.t 54,.t 55]),oM 53 56,oX 57 53 0,oX 58 53 1,oS 6 10 57,oM 16 58]
 (oQ [oM 59 16]
 (.cond (.t 59) (.region [oM 60 12,oM 61 1,oL 62 7 15,oW 63 (.call (oF 184) [.t 62]),oW 64 (.build [.int .i64 0,.int .i64 0,.int .i64 0,.int .i64 0,.int .i64 0,.int .i64 0,.nsl,.nsl] [(0,1,.t 61),(1,7,.t 63)]),oW 65 (.buildSlice 168 8 (.agg [.int .i64 0,.int .i64 0,.int .i64 0,.int .i64 0,.int .i64 0,.int .i64 0,.nsl,.nsl]) 1 [(0,.t 64)]),oW 66 (.append 168 8 96 (.t 60) (.t 65)),oM 12 66]) .skip))))))))
 (.region [oW 67 (.arith .add (.t 38) (oI 1)),oM 38 67]))))
def LM:aG :=
 (oQ [oL 68 6 10,oM 69 12,oS 6 8 68,oM 9 69]
 .ret)
def t78:aD:={ntmps:=70,results:=[(.cell 8 (some 6)),.t 9],mode:=.frz,body :=
 (oQ [oW 4 (.box 37 6 (.t 0)),oW 6 (.box 45 2 (.t 2)),oW 8 (.alloc 37 6 (.agg [.int .i64 0,.nsl,.nsl,.nsl,.nsl,.nsl])),oW 9 (.move (.c .nsl))]
 (oQ [oL 18 6 4,oL 19 2 6,oM 20 3,oM 21 1,oW 22 (.build [.int .i64 0,.int .i64 0,.nsl,.int .i64 0] [(0,2,.t 19),(2,1,.t 20),(3,1,.t 21)]),oW 23 (.call (oF 180) [.t 18,.t 22]),oM 17 23,oX 24 17 0,oX 25 17 1,oW 10 (.alloc 37 6 (.agg [.int .i64 0,.nsl,.nsl,.nsl,.nsl,.nsl])),oS 6 10 24,oM 11 25]
 (.seq (oQ [oM 26 11,oW 27 (.un .not (.t 26))]
 (.cond (.t 27) (oQ [oL 28 6 4,oS 6 8 28,oW 9 (.move (.c .nsl))]
 .ret) .skip))
 (oQ [oL 29 6 4,oM 30 1,oL 31 2 6,oM 32 3,oW 33 (.build [.int .i64 0,.int .i64 0,.int .i64 0,.int .i64 0,.int .i64 0,.nsl,.nsl] [(0,1,oI 1),(1,2,.t 31),(5,1,.t 32)]),oW 34 (.call (oF 181) [.t 29,.t 30,.t 33]),oM 12 34]
 (.seq (oQ [oA 35 5 4,oD 36 35,oW 37 (.len 1 (.t 36)),oW 38 (.move (oI 0))]
 (.block 0 (.loop LL)))
 LM)))))}
theorem c78:aB Tryz.prog Tryz.f78 .frz=some t78:=by kernel_rfl
def t79:aD:={ntmps:=26,results:=[(.cell 6 (some 6)),.t 7],mode:=.frz,body :=
 (oQ [oW 3 (.box 37 6 (.t 0)),oW 5 (.box 45 2 (.t 2)),oW 6 (.alloc 37 6 (.agg [.int .i64 0,.nsl,.nsl,.nsl,.nsl,.nsl])),oW 7 (.move (.c .nsl))]
 (oQ [oL 11 6 3,oL 12 2 5,oM 13 1,oW 14 (.call (oF 185) [.t 11,.t 12,.t 13]),oM 10 14,oX 15 10 0,oX 16 10 1,oW 8 (.alloc 37 6 (.agg [.int .i64 0,.nsl,.nsl,.nsl,.nsl,.nsl])),oS 6 8 15,oM 9 16]
 (.seq (oQ [oM 17 9,oW 18 (.un .not (.t 17))]
 (.cond (.t 18) (oQ [oL 19 6 3,oS 6 6 19,oW 7 (.move (.c .nsl))]
 .ret) .skip))
 (.seq (.draw [oRL 20 6 8,oRL 21 6 3,oRL 23 2 5,oRM 22 1,oR 24 (.build [.int .i64 0,.int .i64 0,.int .i64 0,.int .i64 0,.int .i64 0,.nsl,.nsl] [(0,1,oI 2),(1,2,.t 23)]),nK 25 (.call (oF 181) [.t 21,.t 22,.t 24]) .create 0,⟨none,.store 6 (.t 6) (.t 20),none,.write,1,false⟩,nK 7 (.move (.t 25)) .read 2])
 .ret))))}
theorem c79:aB Tryz.prog Tryz.f79 .frz=some t79:=by kernel_rfl
def t80:aD:={ntmps:=20,results:=[(.cell 6 (some 6)),.t 7],mode:=.frz,body :=
 (oQ [oW 3 (.box 37 6 (.t 0)),oW 5 (.box 49 7 (.t 2)),oW 6 (.alloc 37 6 (.agg [.int .i64 0,.nsl,.nsl,.nsl,.nsl,.nsl])),oW 7 (.move (.c .nsl))]
 (oQ [oL 8 6 3,oA 9 1 5,oL 10 2 9,oA 11 3 5,oL 12 2 11,oA 13 5 5,oD 14 13,oM 15 1,oW 16 (.build [.int .i64 0,.int .i64 0,.int .i64 0,.int .i64 0,.nsl,.int .i64 0,.bool false] [(0,2,.t 10),(2,2,.t 12),(4,1,.t 14),(5,1,.t 15)]),oW 17 (.call (oF 186) [.t 8,.t 16]),oX 18 17 0,oX 19 17 1,oS 6 6 18,oM 7 19]
 .ret))}
theorem c80:aB Tryz.prog Tryz.f80 .frz=some t80:=by kernel_rfl
def t81:aD:={ntmps:=17,results:=[(.cell 6 (some 6)),.t 7],mode:=.frz,body :=
 (oQ [oW 3 (.box 37 6 (.t 0)),oW 5 (.box 49 7 (.t 2)),oW 6 (.alloc 37 6 (.agg [.int .i64 0,.nsl,.nsl,.nsl,.nsl,.nsl])),oW 7 (.move (.c .nsl))]
 (oQ [oL 8 6 3,oA 9 1 5,oL 10 2 9,oA 11 3 5,oL 12 2 11,oM 13 1,oW 14 (.call (oF 187) [.t 8,.t 10,.t 12,.t 13]),oX 15 14 0,oX 16 14 1,oS 6 6 15,oM 7 16]
 .ret))}
theorem c81:aB Tryz.prog Tryz.f81 .frz=some t81:=by kernel_rfl
def LI:aG :=
 (oQ [oW 39 (.arith .lss (.t 38) (.t 37))]
 (.seq (.cond (.t 39) .skip (.exit 0))
 (.seq (.block 1 (oQ [oW 40 (.indexAddr 1 (.t 36) (.t 38)),oD 41 40,oM 13 41]
 (.region [oM 42 10,oM 43 13,oL 44 7 5,oW 45 (.build [.int .i64 0,.int .i64 0,.int .i64 0,.int .i64 0,.int .i64 0,.int .i64 0,.nsl,.nsl] [(0,1,.t 43),(1,7,.t 44)]),oW 46 (.buildSlice 168 8 (.agg [.int .i64 0,.int .i64 0,.int .i64 0,.int .i64 0,.int .i64 0,.int .i64 0,.nsl,.nsl]) 1 [(0,.t 45)]),oW 47 (.append 168 8 96 (.t 42) (.t 46)),oM 10 47])))
 (.region [oW 48 (.arith .add (.t 38) (oI 1)),oM 38 48]))))
def LH:aG :=
 (oQ [oW 55 (.arith .lss (.t 54) (.t 53))]
 (.seq (.cond (.t 55) .skip (.exit 2))
 (.seq (.block 3 (oQ [oW 56 (.indexAddr 1 (.t 52) (.t 54)),oD 57 56,oM 15 57]
 (.region [oM 58 11,oM 59 15,oA 60 3 5,oL 61 2 60,oA 62 6 5,oD 63 62,oW 64 (.build [.int .i64 0,.int .i64 0,.int .i64 0,.nsl] [(0,1,.t 59),(1,2,.t 61),(3,1,.t 63)]),oW 65 (.buildSlice 171 4 (.agg [.int .i64 0,.int .i64 0,.int .i64 0,.nsl]) 1 [(0,.t 64)]),oW 66 (.append 171 4 48 (.t 58) (.t 65)),oM 11 66])))
 (.region [oW 67 (.arith .add (.t 54) (oI 1)),oM 54 67]))))
def LK:aG :=
 (oQ [oM 68 10,oM 69 11,oM 6 68,oM 7 69]
 .ret)
def LJ:aG :=
 (.seq (oQ [oL 49 6 3,oA 50 6 5,oD 51 50,oW 52 (.call (oF 189) [.t 49,.t 51]),oW 53 (.len 1 (.t 52)),oW 54 (.move (oI 0))]
 (.block 2 (.loop LH)))
 LK)
def t82:aD:={ntmps:=70,results:=[.t 6,.t 7],mode:=.frz,body :=
 (oQ [oW 3 (.box 37 6 (.t 0)),oW 5 (.box 49 7 (.t 2)),oW 6 (.move (.c .nsl)),oW 7 (.move (.c .nsl))]
 (oQ [oL 17 6 3,oA 18 1 5,oL 19 2 18,oW 20 (.call (oF 49) [.t 17,.t 19]),oM 16 20,oX 21 16 0,oX 22 16 1,oW 8 (.alloc 86 4 (.agg [.int .i64 0,.int .i64 0,.nsl,.int .i64 0])),oS 4 8 21,oM 9 22]
 (.seq (oQ [oM 23 9,oW 24 (.un .not (.t 23)),oM 25 24,gA 26 3 8 25 false,gD 27 26 25 false,gM 28 1 25 false,gW 29 (.arith .neq (.t 27) (.t 28)) 25 false,oW 30 (.pick (.t 25) (oB true) (.t 29))]
 (.cond (.t 30) (oQ [oW 6 (.move (.c .nsl)),oW 7 (.move (.c .nsl))]
 .ret) .skip))
 (oQ [oW 10 (.move (.c .nsl))]
 (oQ [oW 11 (.move (.c .nsl))]
 (.seq (oQ [oL 31 6 3,oA 32 1 5,oL 33 2 32,oA 34 6 5,oD 35 34,oW 36 (.call (oF 188) [.t 31,.t 33,.t 35]),oW 37 (.len 1 (.t 36)),oW 38 (.move (oI 0))]
 (.block 0 (.loop LI)))
 LJ))))))}
theorem c82:aB Tryz.prog Tryz.f82 .frz=some t82:=by kernel_rfl
def t92:aD:={ntmps:=8,results:=[.t 2],mode:=.full,body :=
 (oQ [oW 2 (.move (.c .nilp))]
 (oQ [oW 3 (.buildSlice 5 1 (.int .u8 0) 0 []),oM 4 0,oW 5 (.append 5 1 1 (.t 3) (.t 4)),oW 6 (.build [.nsl,.bool false] [(0,1,.t 5)]),oW 7 (.box 284 2 (.t 6)),oM 2 7]
 .ret))}
theorem c92:aB Tryz.prog Tryz.f92 .full=some t92:=by kernel_rfl
def LE:aG :=
 (.seq (oQ [oM 32 6,oW 33 (.arith .gtr (.t 32) (oI 0)),oM 34 33,gM 35 0 34 true,gW 36 (.call (oF 195) [.t 35]) 34 true,oW 37 (.pick (.t 34) (.t 36) (oB false))]
 (.cond (.t 37) .skip (.exit 0)))
 (.seq (.block 1 (.draw [oRA 40 5 3,oRD 41 40,oRM 42 0,nK 43 (.call (oF 196) [.t 42]) .create 0,nK 44 (.buildSlice 119 5 (.agg [.str [],.int .i64 0,.int .i64 0,.int .i64 0,.str []]) 1 [(0,.t 43)]) .create 0,nK 45 (.append 119 5 56 (.t 41) (.t 44)) .write 2,nK 46 (.fieldAddr 5 (.t 3)) .read 3,⟨none,.store 1 (.t 46) (.t 45),none,.write,3,false⟩]))
 (.region [oM 38 6,oW 39 (.arith .sub (.t 38) (oI 1)),oM 6 39])))
def LD:aG :=
 (.seq (oQ [oM 53 7,oW 54 (.arith .gtr (.t 53) (oI 0)),oM 55 54,gM 56 0 55 true,gW 57 (.call (oF 195) [.t 56]) 55 true,oW 58 (.pick (.t 55) (.t 57) (oB false))]
 (.cond (.t 58) .skip (.exit 2)))
 (.seq (.block 3 (.draw [oRA 61 6 3,oRD 62 61,oRM 63 0,nK 64 (.call (oF 197) [.t 63]) .create 0,nK 65 (.buildSlice 176 4 (.agg [.str [],.bool false,.int .i64 0,.str []]) 1 [(0,.t 64)]) .create 0,nK 66 (.append 176 4 48 (.t 62) (.t 65)) .write 2,nK 67 (.fieldAddr 6 (.t 3)) .read 3,⟨none,.store 1 (.t 67) (.t 66),none,.write,3,false⟩]))
 (.region [oM 59 7,oW 60 (.arith .sub (.t 59) (oI 1)),oM 7 60])))
def LG:aG :=
 (oQ [oL 68 7 3,oS 7 2 68]
 .ret)
def LF:aG :=
 (.seq (oQ [oM 47 4,oW 48 (.arith .and (.t 47) (oI 4)),oW 49 (.arith .neq (.t 48) (oI 0))]
 (.cond (.t 49) (oQ [oM 50 0,oW 51 (.call (oF 193) [.t 50]),oW 52 (.conv .i64 (.t 51)),oM 7 52]
 (.block 2 (.loop LD))) .skip))
 LG)
def t93:aD:={ntmps:=69,results:=[(.cell 2 (some 7))],mode:=.full,body :=
 (oQ [oW 2 (.alloc 49 7 (.agg [.int .i64 0,.int .i64 0,.int .i64 0,.int .i64 0,.int .i64 0,.nsl,.nsl]))]
 (oQ [oM 8 0,oW 9 (.call (oF 193) [.t 8]),oW 10 (.conv .i64 (.t 9)),oM 11 0,oW 12 (.call (oF 194) [.t 11]),oW 13 (.build [.int .i64 0,.int .i64 0,.int .i64 0,.int .i64 0,.int .i64 0,.nsl,.nsl] [(0,1,.t 10),(1,2,.t 12)]),oW 3 (.alloc 49 7 (.agg [.int .i64 0,.int .i64 0,.int .i64 0,.int .i64 0,.int .i64 0,.nsl,.nsl])),oS 7 3 13]
 (oQ [oA 15 0 3,oD 16 15,oW 17 (.call (oF 167) [.t 16]),oM 14 17,oX 18 14 0,oX 19 14 1,oM 4 18,oM 5 19]
 (.seq (oQ [oM 20 4,oW 21 (.arith .and (.t 20) (oI 1)),oW 22 (.arith .neq (.t 21) (oI 0))]
 (.cond (.t 22) (.region [oM 23 0,oW 24 (.call (oF 194) [.t 23]),oA 25 3 3,oS 2 25 24]) .skip))
 (.seq (oQ [oM 26 4,oW 27 (.arith .and (.t 26) (oI 2)),oW 28 (.arith .neq (.t 27) (oI 0))]
 (.cond (.t 28) (oQ [oM 29 0,oW 30 (.call (oF 193) [.t 29]),oW 31 (.conv .i64 (.t 30)),oM 6 31]
 (.block 0 (.loop LE))) .skip))
 LF)))))}
theorem c93:aB Tryz.prog Tryz.f93 .full=some t93:=by kernel_rfl
def t94:aD:={ntmps:=16,results:=[.t 2],mode:=.full,body :=
 (oQ [oW 2 (.move (oB false))]
 (oQ [oM 3 0,oW 4 (.nilCheck (.t 3)),oA 5 1 4,oD 6 5,oW 7 (.un .not (.t 6)),oM 8 7,gM 9 0 8 true,gW 10 (.nilCheck (.t 9)) 8 true,gA 11 0 10 8 true,gD 12 11 8 true,gW 13 (.len 1 (.t 12)) 8 true,gW 14 (.arith .eql (.t 13) (oI 0)) 8 true,oW 15 (.pick (.t 8) (.t 14) (oB false)),oM 2 15]
 .ret))}
theorem c94:aB Tryz.prog Tryz.f94 .full=some t94:=by kernel_rfl
def t95:aD:={ntmps:=10,results:=[.t 4],mode:=.pure,body :=
 (oQ [oW 4 (.move (oB false))]
 (oQ [oM 5 0,oW 6 (.bytesStr (.t 5)),oM 7 1,oW 8 (.bytesStr (.t 7)),oW 9 (.arith .eql (.t 6) (.t 8)),oM 4 9]
 .ret))}
theorem c95:aB Tryz.prog Tryz.f95 .pure=some t95:=by kernel_rfl
def t99:aD:={ntmps:=9,results:=[.t 4],mode:=.pure,body :=
 (oQ [oW 2 (.box 45 2 (.t 0)),oW 3 (.box 45 2 (.t 1)),oW 4 (.move (oB false))]
 (oQ [oL 5 2 2,oL 6 2 3,oW 7 (.call (oF 107) [.t 5,.t 6]),oW 8 (.arith .lss (.t 7) (oI 0)),oM 4 8]
 .ret))}
theorem c99:aB Tryz.prog Tryz.f99 .pure=some t99:=by kernel_rfl
def nN:aG :=
 (oQ [oW 9 (.arith .lss (.t 8) (.t 7))]
 (.seq (.cond (.t 9) .skip (.exit 0))
 (.seq (.block 1 (oQ [oW 10 (.indexAddr 1 (.t 6) (.t 8)),oD 11 10,oM 5 11]
 (oQ [oM 12 5,oM 13 3,oW 14 (.arith .neq (.t 12) (.t 13))]
 (.cond (.t 14) (oQ [oM 15 5,oM 2 15]
 .ret) .skip))))
 (.region [oW 16 (.arith .add (.t 8) (oI 1)),oM 8 16]))))
def yU:aG :=
 (oQ [oM 17 3,oM 2 17]
 .ret)
def vM:aD:={ntmps:=18,results:=[.t 2],mode:=.pure,body :=
 (oQ [oW 2 (.move (oI 0))]
 (oQ [oW 3 (.move (oI 0))]
 (.seq (oQ [oM 6 0,oW 7 (.len 1 (.t 6)),oW 8 (.move (oI 0))]
 (.block 0 (.loop nN)))
 yU)))}
theorem KM:aB Tryz.prog Tryz.f106 .pure=some vM:=by kernel_rfl
end Go.Dm.Tc
