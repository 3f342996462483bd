/- A part of the proof. -/
import Derived.Test.YtegofjiikhlokaaGreatDoorMm3
import Derived.Test.YtegofjiikhlokaaGreatDoorRows
import Derived.KernelRfl
namespace Go.Dm.Tc
open Go.Proofs
abbrev oQ(l:List aZ)(c:aN):aN:=.seq (.region l) c
abbrev gW(d:Nat)(op:DOp)(g:Nat)(b:Bool):aZ:=⟨some d,op,some (g,b),.write,0,false⟩
abbrev gM(d x g:Nat)(b:Bool):aZ:=⟨some d,.move (.t x),some (g,b),.write,0,false⟩
abbrev gA(d o x g:Nat)(b:Bool):aZ:=⟨some d,.fieldAddr o (.t x),some (g,b),.write,0,false⟩
abbrev gD(d x g:Nat)(b:Bool):aZ:=⟨some d,.load none (.t x),some (g,b),.write,0,false⟩
abbrev gL(d n x g:Nat)(b:Bool):aZ:=⟨some d,.load (some n) (.t x),some (g,b),.write,0,false⟩
abbrev rW(d:Nat)(op:DOp)(g:Nat)(b:Bool):aZ:=⟨some d,op,some (g,b),.read,0,false⟩
abbrev rM(d x g:Nat)(b:Bool):aZ:=⟨some d,.move (.t x),some (g,b),.read,0,false⟩
abbrev rA(d o x g:Nat)(b:Bool):aZ:=⟨some d,.fieldAddr o (.t x),some (g,b),.read,0,false⟩
abbrev rD(d x g:Nat)(b:Bool):aZ:=⟨some d,.load none (.t x),some (g,b),.read,0,false⟩
abbrev rL(d n x g:Nat)(b:Bool):aZ:=⟨some d,.load (some n) (.t x),some (g,b),.read,0,false⟩
abbrev nK(d:Nat)(op:DOp)(k:uZ)(s:Nat):aZ:=⟨some d,op,none,k,s,false⟩
def t4:aQ:={ntmps:=118,results:=[.t 10],mode:=.pure,body :=
 (oQ [oW 5 (.box 24 2 (.t 0)),oW 6 (.box 30 9 (.t 1)),oW 7 (.box 30 9 (.t 2)),oW 10 (.move (oB false))]
 (oQ [oL 28 2 5,oW 29 (.call (oF 7) [.t 28]),oW 11 (.alloc 36 6 (.agg [.int .i64 0,.nsl,.nsl,.nsl,.nsl,.nsl])),oS 6 11 29]
 (.seq (.draw [oRL 30 9 6,nK 31 (.call (oF 9) [.t 30]) .create 0,oRL 32 9 7,nK 33 (.call (oF 9) [.t 32]) .write 1,nK 12 (.alloc 44 7 (.agg [.int .i64 0,.int .i64 0,.int .i64 0,.int .i64 0,.int .i64 0,.nsl,.nsl])) .create 0,nK 13 (.alloc 44 7 (.agg [.int .i64 0,.int .i64 0,.int .i64 0,.int .i64 0,.int .i64 0,.nsl,.nsl])) .create 0,⟨none,.store 7 (.t 12) (.t 31),none,.write,4,false⟩,⟨none,.store 7 (.t 13) (.t 33),none,.write,5,false⟩])
 (.seq (oQ [oA 34 1 12,oL 35 2 34,oA 36 1 13,oL 37 2 36,oW 38 (.eqa false [1,1] (.t 35) (.t 37))]
 (.cond (.t 38) (oQ [oW 39 (.call (oF 14) []),oM 10 39]
 .ret) .skip))
 (.seq (.draw [oRA 40 1 11,oRD 41 40,oRA 43 1 11,oRD 44 43,oRM 42 3,oR 45 (.len 1 (.t 44)),oR 46 (.arith .sub (.t 45) (oI 1)),nK 47 (.call (oF 8) [.t 42,oI 0,.t 46]) .create 0,nK 48 (.indexAddr 1 (.t 41) (.t 47)) .read 1,nK 49 (.load none (.t 48)) .read 1,oRA 50 1 11,oRD 51 50,oRA 53 1 11,oRD 54 53,oRM 52 4,oR 55 (.len 1 (.t 54)),oR 56 (.arith .sub (.t 55) (oI 1)),nK 57 (.call (oF 8) [.t 52,oI 0,.t 56]) .create 1,nK 58 (.indexAddr 1 (.t 51) (.t 57)) .read 2,nK 59 (.load none (.t 58)) .read 2,nK 14 (.move (.t 49)) .read 2,nK 15 (.move (.t 59)) .read 2])
 (oQ [oL 61 6 11,oM 62 14,oL 63 7 12,oW 64 (.call (oF 10) [.t 61,.t 62,.t 63]),oM 60 64,oX 65 60 0,oX 66 60 1,oX 67 60 2,oW 16 (.alloc 36 6 (.agg [.int .i64 0,.nsl,.nsl,.nsl,.nsl,.nsl])),oS 6 16 65,oM 17 66,oM 18 67]
 (oQ [oL 69 6 16,oM 70 15,oL 71 7 13,oW 72 (.call (oF 10) [.t 69,.t 70,.t 71]),oM 68 72,oX 73 68 0,oX 74 68 1,oX 75 68 2,oW 19 (.alloc 36 6 (.agg [.int .i64 0,.nsl,.nsl,.nsl,.nsl,.nsl])),oS 6 19 73,oM 20 74,oM 21 75]
 (oQ [oL 77 6 11,oM 78 15,oL 79 7 13,oW 80 (.call (oF 10) [.t 77,.t 78,.t 79]),oM 76 80,oX 81 76 0,oX 82 76 1,oX 83 76 2,oW 22 (.alloc 36 6 (.agg [.int .i64 0,.nsl,.nsl,.nsl,.nsl,.nsl])),oS 6 22 81,oM 23 82,oM 24 83]
 (oQ [oL 85 6 22,oM 86 14,oL 87 7 12,oW 88 (.call (oF 10) [.t 85,.t 86,.t 87]),oM 84 88,oX 89 84 0,oX 90 84 1,oX 91 84 2,oW 25 (.alloc 36 6 (.agg [.int .i64 0,.nsl,.nsl,.nsl,.nsl,.nsl])),oS 6 25 89,oM 26 90,oM 27 91]
 (oQ [oL 92 6 19,oL 93 6 25,oW 94 (.call (oF 16) [.t 92,.t 93]),oM 95 94,gM 96 17 95 true,gM 97 26 95 true,gW 98 (.call (oF 12) [.t 96,.t 97]) 95 true,oW 99 (.pick (.t 95) (.t 98) (oB false)),oM 100 99,gM 101 20 100 true,gM 102 23 100 true,gW 103 (.call (oF 12) [.t 101,.t 102]) 100 true,oW 104 (.pick (.t 100) (.t 103) (oB false)),oM 105 104,gM 106 18 105 true,gM 107 27 105 true,gW 108 (.call (oF 13) [.t 106,.t 107]) 105 true,oW 109 (.pick (.t 105) (.t 108) (oB false)),oM 110 109,gM 111 21 110 true,gM 112 24 110 true,gW 113 (.call (oF 13) [.t 111,.t 112]) 110 true,oW 114 (.pick (.t 110) (.t 113) (oB false)),oM 115 114,gW 116 (.call (oF 14) []) 115 true,oW 117 (.pick (.t 115) (.t 116) (oB false)),oM 10 117]
 .ret))))))))))}
theorem c4:aE Tryz.prog Tryz.f4 .pure=some t4:=by kernel_rfl
def t7s0:aN :=
 (.region [oW 25 (.arith .add (.t 15) (oI 1)),oM 15 25])
def RN:aN :=
 (oQ [oW 16 (.arith .lss (.t 15) (.t 14))]
 (.seq (.cond (.t 16) .skip (.exit 0))
 (.seq (.block 1 (oQ [oM 17 15,oM 4 17]
 (.region [oA 18 1 3,oD 19 18,oM 20 4,oW 21 (.arith .add (.t 20) (oI 1)),oW 22 (.buildSlice 3 1 (.int .i64 0) 1 [(0,.t 21)]),oW 23 (.append 3 1 8 (.t 19) (.t 22)),oA 24 1 3,oS 1 24 23])))
 t7s0)))
def vH:aN :=
 (.region [oM 35 5,oW 36 (.arith .add (.t 35) (oI 1)),oM 5 36])
def Vv:aN :=
 (.seq (oQ [oM 26 5,oA 27 1 1,oD 28 27,oW 29 (.len 1 (.t 28)),oW 30 (.arith .lss (.t 26) (.t 29)),oM 31 30,gM 32 5 31 true,gW 33 (.arith .lss (.t 32) (oI 12)) 31 true,oW 34 (.pick (.t 31) (.t 33) (oB false))]
 (.cond (.t 34) .skip (.exit 2)))
 (.seq (.block 3 (oQ [oA 37 1 1,oD 38 37,oM 39 5,oW 40 (.indexAddr 7 (.t 38) (.t 39)),oL 41 7 40,oW 6 (.alloc 77 7 (.agg [.int .i64 0,.int .i64 0,.int .i64 0,.int .i64 0,.int .i64 0,.nsl,.nsl])),oS 7 6 41]
 (oQ [oA 42 2 6,oD 43 42,oW 44 (.call (oF 8) [.t 43,oI 0,oI 2]),oW 45 (.build [.int .i64 0,.int .i64 0] [(0,1,.t 44)]),oW 7 (.alloc 40 2 (.agg [.int .i64 0,.int .i64 0])),oS 2 7 45]
 (.seq (.draw [oRA 46 3 6,oRD 47 46,nK 48 (.call (oF 8) [.t 47,oI 0,oI 4]) .create 0,oRA 49 4 6,oRD 50 49,nK 51 (.call (oF 8) [.t 50,oI 0,oI 2]) .write 1,nK 52 (.build [.int .i64 0,.int .i64 0] [(0,1,.t 48),(1,1,.t 51)]) .read 2,nK 8 (.alloc 40 2 (.agg [.int .i64 0,.int .i64 0])) .create 0,⟨none,.store 2 (.t 8) (.t 52),none,.write,3,false⟩])
 (oQ [oL 53 6 3,oA 54 1 6,oD 55 54,oW 56 (.call (oF 27) [.t 53,.t 55]),oM 9 56]
 (.seq (.draw [oRA 57 0 6,oRD 58 57,nK 59 (.call (oF 8) [.t 58,oI 1,oI 7]) .create 0,oRL 60 2 7,oRL 61 2 8,oRA 62 5 6,oRL 63 2 62,nK 64 (.call (oF 28) [.t 63]) .create 0,nK 65 (.build [.int .i64 0,.int .i64 0,.int .i64 0,.int .i64 0,.int .i64 0,.nsl,.nsl] [(0,1,.t 59),(1,2,.t 60),(3,2,.t 61),(5,1,.t 64)]) .read 2,nK 10 (.alloc 44 7 (.agg [.int .i64 0,.int .i64 0,.int .i64 0,.int .i64 0,.int .i64 0,.nsl,.nsl])) .create 0,⟨none,.store 7 (.t 10) (.t 65),none,.write,3,false⟩])
 (.block 4 (oQ [oA 75 0 10,oD 76 75,oW 77 (.arith .eql (.t 76) (oI 6)),oM 74 77]
 (.cond (.t 74) (.region [oL 79 6 3,oL 80 2 8,oA 81 5 10,oD 82 81,oW 83 (.call (oF 29) [.t 79,.t 80,.t 82]),oM 78 83,oX 84 78 0,oX 85 78 1,oS 6 3 84]) (oQ [oA 87 0 10,oD 88 87,oW 89 (.arith .eql (.t 88) (oI 7)),oM 86 89]
 (.cond (.t 86) (.region [oL 91 6 3,oL 92 2 8,oW 93 (.call (oF 30) [.t 91,.t 92]),oM 90 93,oX 94 90 0,oX 95 90 1,oS 6 3 94]) (.seq (oQ [oA 97 0 10,oD 98 97,oW 99 (.arith .eql (.t 98) (oI 3)),oM 100 99,gM 101 9 100 true,gW 102 (.arith .eql (.t 101) (oI (-1))) 100 true,oW 103 (.pick (.t 100) (.t 102) (oB false)),oM 96 103]
 (.cond (.t 96) .skip (oQ [oA 104 0 10,oD 105 104,oW 106 (.arith .eql (.t 105) (oI 4)),oM 107 106,gM 108 9 107 true,gW 109 (.arith .eql (.t 108) (oI (-1))) 107 true,oW 110 (.pick (.t 107) (.t 109) (oB false)),oM 96 110]
 (.cond (.t 96) .skip (.region [oA 111 0 10,oD 112 111,oW 113 (.arith .eql (.t 112) (oI 5)),oM 96 113])))))
 (.cond (.t 96) (.region [oL 115 6 3,oM 116 9,oL 117 2 7,oA 118 5 10,oD 119 118,oW 120 (.call (oF 31) [.t 115,.t 116,.t 117,.t 119]),oM 114 120,oX 121 114 0,oX 122 114 1,oS 6 3 121]) (.region [oL 67 6 3,oM 68 9,oL 69 7 10,oW 70 (.call (oF 23) [.t 67,.t 68,.t 69]),oM 66 70,oX 71 66 0,oX 72 66 1,oX 73 66 2,oS 6 3 71]))))))))))))))
 vH))
def G3:aN :=
 (oQ [oL 123 6 3,oS 6 2 123]
 .ret)
def XC:aN :=
 (.seq (oQ [oW 5 (.move (oI 0))]
 (.block 2 (.loop Vv)))
 G3)
def t7:aQ:={ntmps:=124,results:=[(.cell 2 (some 6))],mode:=.pure,body :=
 (oQ [oW 1 (.box 24 2 (.t 0)),oW 2 (.alloc 36 6 (.agg [.int .i64 0,.nsl,.nsl,.nsl,.nsl,.nsl]))]
 (oQ [oW 11 (.build [.int .i64 0,.nsl,.nsl,.nsl,.nsl,.nsl] [(0,1,oI 0)]),oW 3 (.alloc 36 6 (.agg [.int .i64 0,.nsl,.nsl,.nsl,.nsl,.nsl])),oS 6 3 11]
 (.seq (oQ [oA 12 0 1,oD 13 12,oW 14 (.call (oF 8) [.t 13,oI 1,oI 4]),oW 15 (.move (oI 0))]
 (.block 0 (.loop RN)))
 XC)))}
theorem c7:aE Tryz.prog Tryz.f7 .pure=some t7:=by kernel_rfl
def t8:aQ:={ntmps:=24,results:=[.t 6],mode:=.pure,body :=
 (oQ [oW 6 (.move (oI 0))]
 (oQ [oM 7 0,oM 8 2,oM 9 1,oW 10 (.arith .sub (.t 8) (.t 9)),oW 11 (.arith .add (.t 10) (oI 1)),oW 12 (.arith .rem (.t 7) (.t 11)),oM 0 12]
 (.seq (oQ [oM 13 0,oW 14 (.arith .lss (.t 13) (oI 0))]
 (.cond (.t 14) (.region [oM 15 0,oM 16 2,oW 17 (.arith .add (.t 15) (.t 16)),oM 18 1,oW 19 (.arith .sub (.t 17) (.t 18)),oW 20 (.arith .add (.t 19) (oI 1)),oM 0 20]) .skip))
 (oQ [oM 21 1,oM 22 0,oW 23 (.arith .add (.t 21) (.t 22)),oM 6 23]
 .ret))))}
theorem c8:aE Tryz.prog Tryz.f8 .pure=some t8:=by kernel_rfl
def t9:aQ:={ntmps:=46,results:=[(.cell 2 (some 7))],mode:=.pure,body :=
 (oQ [oW 1 (.box 30 9 (.t 0)),oW 2 (.alloc 44 7 (.agg [.int .i64 0,.int .i64 0,.int .i64 0,.int .i64 0,.int .i64 0,.nsl,.nsl]))]
 (.seq (.draw [oRA 4 0 1,oRD 5 4,nK 6 (.call (oF 8) [.t 5,oI 1,oI 5]) .create 0,oRA 7 1 1,oRD 8 7,nK 9 (.call (oF 8) [.t 8,oI 0,oI 4]) .create 0,oRA 10 2 1,oRD 11 10,nK 12 (.call (oF 8) [.t 11,oI 0,oI 4]) .write 2,nK 13 (.build [.int .i64 0,.int .i64 0] [(0,1,.t 9),(1,1,.t 12)]) .read 3,nK 14 (.build [.int .i64 0,.int .i64 0,.int .i64 0,.int .i64 0,.int .i64 0,.nsl,.nsl] [(0,1,.t 6),(1,2,.t 13)]) .read 3,nK 3 (.alloc 44 7 (.agg [.int .i64 0,.int .i64 0,.int .i64 0,.int .i64 0,.int .i64 0,.nsl,.nsl])) .create 0,⟨none,.store 7 (.t 3) (.t 14),none,.write,4,false⟩])
 (.seq (oQ [oA 15 0 3,oD 16 15,oW 17 (.arith .geq (.t 16) (oI 3))]
 (.cond (.t 17) (.draw [oRA 18 3 1,oRD 19 18,nK 20 (.call (oF 8) [.t 19,oI 0,oI 4]) .create 0,oRA 21 4 1,oRD 22 21,nK 23 (.call (oF 8) [.t 22,oI 0,oI 4]) .write 1,nK 24 (.build [.int .i64 0,.int .i64 0] [(0,1,.t 20),(1,1,.t 23)]) .read 2,nK 25 (.fieldAddr 3 (.t 3)) .read 2,⟨none,.store 2 (.t 25) (.t 24),none,.write,2,false⟩]) .skip))
 (.seq (oQ [oA 26 0 3,oD 27 26,oW 28 (.arith .eql (.t 27) (oI 1)),oM 29 28,gA 30 0 3 29 false,gD 31 30 29 false,gW 32 (.arith .eql (.t 31) (oI 3)) 29 false,oW 33 (.pick (.t 29) (oB true) (.t 32))]
 (.cond (.t 33) (.region [oA 34 5 1,oL 35 2 34,oW 36 (.call (oF 28) [.t 35]),oA 37 5 3,oS 1 37 36]) .skip))
 (.seq (oQ [oA 38 0 3,oD 39 38,oW 40 (.arith .eql (.t 39) (oI 5))]
 (.cond (.t 40) (.region [oA 41 7 1,oL 42 2 41,oW 43 (.call (oF 32) [.t 42]),oA 44 6 3,oS 1 44 43]) .skip))
 (oQ [oL 45 7 3,oS 7 2 45]
 .ret))))))}
theorem c9:aE Tryz.prog Tryz.f9 .pure=some t9:=by kernel_rfl
def t10:aQ:={ntmps:=68,results:=[(.cell 6 (some 6)),.t 7,.t 8],mode:=.frz,body :=
 (oQ [oW 3 (.box 36 6 (.t 0)),oW 5 (.box 44 7 (.t 2)),oW 6 (.alloc 36 6 (.agg [.int .i64 0,.nsl,.nsl,.nsl,.nsl,.nsl])),oW 7 (.move (.c .nsl)),oW 8 (.move (.c .nsl))]
 (oQ [oW 9 (.move (.c .nsl))]
 (.seq (oQ [oA 12 0 5,oD 13 12]
 (.block 0 (oQ [oW 15 (.arith .eql (.t 13) (oI 1)),oM 14 15]
 (.cond (.t 14) (.region [oL 17 6 3,oM 18 1,oA 19 1 5,oL 20 2 19,oA 21 5 5,oD 22 21,oW 23 (.call (oF 33) [.t 17,.t 18,.t 20,.t 22]),oM 16 23,oX 24 16 0,oX 25 16 1,oS 6 3 24,oM 9 25]) (oQ [oW 27 (.arith .eql (.t 13) (oI 2)),oM 26 27]
 (.cond (.t 26) (.region [oL 29 6 3,oM 30 1,oA 31 1 5,oL 32 2 31,oW 33 (.call (oF 34) [.t 29,.t 30,.t 32]),oM 28 33,oX 34 28 0,oX 35 28 1,oS 6 3 34,oM 9 35]) (oQ [oW 37 (.arith .eql (.t 13) (oI 3)),oM 36 37]
 (.cond (.t 36) (.region [oL 39 6 3,oM 40 1,oL 41 7 5,oW 42 (.call (oF 35) [.t 39,.t 40,.t 41]),oM 38 42,oX 43 38 0,oX 44 38 1,oS 6 3 43,oM 9 44]) (oQ [oW 46 (.arith .eql (.t 13) (oI 4)),oM 45 46]
 (.cond (.t 45) (.region [oL 48 6 3,oM 49 1,oL 50 7 5,oW 51 (.call (oF 36) [.t 48,.t 49,.t 50]),oM 47 51,oX 52 47 0,oX 53 47 1,oS 6 3 52,oM 9 53]) (oQ [oW 55 (.arith .eql (.t 13) (oI 5)),oM 54 55]
 (.cond (.t 54) (oQ [oL 57 6 3,oM 58 1,oL 59 7 5,oW 60 (.call (oF 37) [.t 57,.t 58,.t 59]),oM 56 60,oX 61 56 0,oX 62 56 1,oM 10 61,oM 11 62]
 (oQ [oL 63 6 3,oM 64 10,oM 65 11,oS 6 6 63,oM 7 64,oM 8 65]
 .ret)) .skip))))))))))))
 (oQ [oL 66 6 3,oM 67 9,oS 6 6 66,oM 7 67,oW 8 (.move (.c .nsl))]
 .ret))))}
theorem c10:aE Tryz.prog Tryz.f10 .frz=some t10:=by kernel_rfl
def Iy:aN :=
 (oQ [oW 14 (.arith .lss (.t 13) (.t 12))]
 (.seq (.cond (.t 14) .skip (.exit 0))
 (.seq (.block 1 (oQ [oM 15 13,oM 5 15]
 (.seq (.draw [oRM 16 0,oRM 17 5,oR 18 (.indexAddr 8 (.t 16) (.t 17)),oRA 19 0 18,oRD 20 19,oRM 21 1,oRM 22 5,oR 23 (.indexAddr 8 (.t 21) (.t 22)),oRA 24 0 23,oRD 25 24,oR 26 (.arith .neq (.t 20) (.t 25)),oRM 27 26,rM 28 0 27 false,rM 29 5 27 false,rW 30 (.indexAddr 8 (.t 28) (.t 29)) 27 false,rA 31 1 30 27 false,rL 32 7 31 27 false,rM 33 1 27 false,rM 34 5 27 false,rW 35 (.indexAddr 8 (.t 33) (.t 34)) 27 false,rA 36 1 35 27 false,rL 37 7 36 27 false,gW 38 (.call (oF 42) [.t 32,.t 37]) 27 false,⟨(some 39),.un .not (.t 38),(some (27,false)),.read,1,false⟩,nK 40 (.pick (.t 27) (oB true) (.t 39)) .read 1])
 (.cond (.t 40) (oQ [oW 4 (.move (oB false))]
 .ret) .skip))))
 (.region [oW 41 (.arith .add (.t 13) (oI 1)),oM 13 41]))))
def Wb:aN :=
 (oQ [oW 4 (.move (oB true))]
 .ret)
def t12:aQ:={ntmps:=42,results:=[.t 4],mode:=.pure,body :=
 (oQ [oW 4 (.move (oB false))]
 (.seq (oQ [oM 6 0,oW 7 (.len 1 (.t 6)),oM 8 1,oW 9 (.len 1 (.t 8)),oW 10 (.arith .neq (.t 7) (.t 9))]
 (.cond (.t 10) (oQ [oW 4 (.move (oB false))]
 .ret) .skip))
 (.seq (oQ [oM 11 0,oW 12 (.len 1 (.t 11)),oW 13 (.move (oI 0))]
 (.block 0 (.loop Iy)))
 Wb)))}
theorem c12:aE Tryz.prog Tryz.f12 .pure=some t12:=by kernel_rfl
def AB:aN :=
 (oQ [oW 14 (.arith .lss (.t 13) (.t 12))]
 (.seq (.cond (.t 14) .skip (.exit 0))
 (.seq (.block 1 (oQ [oM 15 13,oM 5 15]
 (.seq (.draw [oRM 16 0,oRM 17 5,oR 18 (.indexAddr 4 (.t 16) (.t 17)),oRA 19 0 18,oRD 20 19,oRM 21 1,oRM 22 5,oR 23 (.indexAddr 4 (.t 21) (.t 22)),oRA 24 0 23,oRD 25 24,oR 26 (.arith .neq (.t 20) (.t 25)),oRM 27 26,rM 28 0 27 false,rM 29 5 27 false,rW 30 (.indexAddr 4 (.t 28) (.t 29)) 27 false,rA 31 1 30 27 false,rL 32 2 31 27 false,rM 33 1 27 false,rM 34 5 27 false,rW 35 (.indexAddr 4 (.t 33) (.t 34)) 27 false,rA 36 1 35 27 false,rL 37 2 36 27 false,rW 38 (.eqa true [1,1] (.t 32) (.t 37)) 27 false,oR 39 (.pick (.t 27) (oB true) (.t 38)),oRM 40 39,rM 41 0 40 false,rM 42 5 40 false,rW 43 (.indexAddr 4 (.t 41) (.t 42)) 40 false,rA 44 3 43 40 false,rD 45 44 40 false,rM 46 1 40 false,rM 47 5 40 false,rW 48 (.indexAddr 4 (.t 46) (.t 47)) 40 false,rA 49 3 48 40 false,rD 50 49 40 false,gW 51 (.call (oF 43) [.t 45,.t 50]) 40 false,⟨(some 52),.un .not (.t 51),(some (40,false)),.read,1,false⟩,nK 53 (.pick (.t 40) (oB true) (.t 52)) .read 1])
 (.cond (.t 53) (oQ [oW 4 (.move (oB false))]
 .ret) .skip))))
 (.region [oW 54 (.arith .add (.t 13) (oI 1)),oM 13 54]))))
def KN:aN :=
 (oQ [oW 4 (.move (oB true))]
 .ret)
def t13:aQ:={ntmps:=55,results:=[.t 4],mode:=.pure,body :=
 (oQ [oW 4 (.move (oB false))]
 (.seq (oQ [oM 6 0,oW 7 (.len 1 (.t 6)),oM 8 1,oW 9 (.len 1 (.t 8)),oW 10 (.arith .neq (.t 7) (.t 9))]
 (.cond (.t 10) (oQ [oW 4 (.move (oB false))]
 .ret) .skip))
 (.seq (oQ [oM 11 0,oW 12 (.len 1 (.t 11)),oW 13 (.move (oI 0))]
 (.block 0 (.loop AB)))
 KN)))}
theorem c13:aE Tryz.prog Tryz.f13 .pure=some t13:=by kernel_rfl
def t14:aQ:={ntmps:=34,results:=[.t 0],mode:=.pure,body :=
 (oQ [oW 0 (.move (oB false))]
 (oQ [oW 6 (.buildSlice 3 1 (.int .i64 0) 1 [(0,oI 1)]),oW 7 (.call (oF 44) [oI 0,.t 6]),oW 8 (.buildSlice 5 1 (.int .u8 0) 1 [(0,(.c (.int .u8 9)))]),oW 9 (.call (oF 18) [.t 7,oI 1,.t 8]),oM 5 9,oX 10 5 0,oX 11 5 1,oX 12 5 2,oX 13 5 3,oW 1 (.alloc 36 6 (.agg [.int .i64 0,.nsl,.nsl,.nsl,.nsl,.nsl])),oS 6 1 10,oM 2 11,oM 3 12,oM 4 13]
 (oQ [oM 14 4,oW 15 (.call (oF 19) [.t 14]),oW 16 (.arith .eql (.t 15) (oI 1)),oM 17 16,gM 18 4 17 true,gW 19 (.call (oF 21) [.t 18]) 17 true,gW 20 (.buildSlice 9 1 (.str []) 2 [(0,(.c (.str [98,114,111,107,101,114]))),(1,(.c (.str [119,105,114,101])))]) 17 true,gW 21 (.call (oF 20) [.t 19,.t 20]) 17 true,oW 22 (.pick (.t 17) (.t 21) (oB false)),oM 23 22,gM 24 4 23 true,gW 25 (.call (oF 22) [.t 24]) 23 true,gW 26 (.arith .eql (.t 25) (oI 1)) 23 true,oW 27 (.pick (.t 23) (.t 26) (oB false)),oM 28 27,gW 29 (.buildSlice 3 1 (.int .i64 0) 1 [(0,oI 1)]) 28 true,gW 30 (.call (oF 44) [oI 0,.t 29]) 28 true,gW 31 (.build [.int .i64 0,.int .i64 0,.int .i64 0,.int .i64 0,.int .i64 0,.nsl,.nsl] [(0,1,oI 2)]) 28 true,gW 32 (.call (oF 15) [.t 30,oI 1,.t 31]) 28 true,oW 33 (.pick (.t 28) (.t 32) (oB false)),oM 0 33]
 .ret)))}
theorem c14:aE Tryz.prog Tryz.f14 .pure=some t14:=by kernel_rfl
def t15:aQ:={ntmps:=31,results:=[.t 6],mode:=.pure,body :=
 (oQ [oW 3 (.box 36 6 (.t 0)),oW 5 (.box 44 7 (.t 2)),oW 6 (.move (oB false))]
 (oQ [oL 11 6 3,oM 12 1,oL 13 7 5,oW 14 (.call (oF 10) [.t 11,.t 12,.t 13]),oM 10 14,oX 15 10 0,oX 16 10 1,oX 17 10 2,oW 7 (.alloc 36 6 (.agg [.int .i64 0,.nsl,.nsl,.nsl,.nsl,.nsl])),oS 6 7 15,oM 8 16,oM 9 17]
 (oQ [oL 18 6 7,oL 19 6 3,oW 20 (.call (oF 16) [.t 18,.t 19]),oM 21 20,gM 22 8 21 true,gW 23 (.len 1 (.t 22)) 21 true,gW 24 (.arith .eql (.t 23) (oI 0)) 21 true,oW 25 (.pick (.t 21) (.t 24) (oB false)),oM 26 25,gM 27 9 26 true,gW 28 (.len 1 (.t 27)) 26 true,gW 29 (.arith .eql (.t 28) (oI 0)) 26 true,oW 30 (.pick (.t 26) (.t 29) (oB false)),oM 6 30]
 .ret)))}
theorem c15:aE Tryz.prog Tryz.f15 .pure=some t15:=by kernel_rfl
def t16:aQ:={ntmps:=45,results:=[.t 4],mode:=.pure,body :=
 (oQ [oW 2 (.box 36 6 (.t 0)),oW 3 (.box 36 6 (.t 1)),oW 4 (.move (oB false))]
 (oQ [oA 5 0 2,oD 6 5,oA 7 0 3,oD 8 7,oW 9 (.arith .eql (.t 6) (.t 8)),oM 10 9,gA 11 1 2 10 true,gD 12 11 10 true,gA 13 1 3 10 true,gD 14 13 10 true,gW 15 (.call (oF 45) [.t 12,.t 14]) 10 true,oW 16 (.pick (.t 10) (.t 15) (oB false)),oM 17 16,gA 18 3 2 17 true,gD 19 18 17 true,gA 20 3 3 17 true,gD 21 20 17 true,gW 22 (.call (oF 46) [.t 19,.t 21]) 17 true,oW 23 (.pick (.t 17) (.t 22) (oB false)),oM 24 23,gA 25 2 2 24 true,gD 26 25 24 true,gA 27 2 3 24 true,gD 28 27 24 true,gW 29 (.call (oF 47) [.t 26,.t 28,oF 48]) 24 true,oW 30 (.pick (.t 24) (.t 29) (oB false)),oM 31 30,gA 32 4 2 31 true,gD 33 32 31 true,gA 34 4 3 31 true,gD 35 34 31 true,gW 36 (.call (oF 50) [.t 33,.t 35,oF 51]) 31 true,oW 37 (.pick (.t 31) (.t 36) (oB false)),oM 38 37,gA 39 5 2 38 true,gD 40 39 38 true,gA 41 5 3 38 true,gD 42 41 38 true,gW 43 (.call (oF 52) [.t 40,.t 42,oF 53]) 38 true,oW 44 (.pick (.t 38) (.t 43) (oB false)),oM 4 44]
 .ret))}
theorem c16:aE Tryz.prog Tryz.f16 .pure=some t16:=by kernel_rfl
def t18:aQ:={ntmps:=37,results:=[(.cell 6 (some 6)),.t 7,.t 8,.t 9],mode:=.full,body :=
 (oQ [oW 3 (.box 36 6 (.t 0)),oW 6 (.alloc 36 6 (.agg [.int .i64 0,.nsl,.nsl,.nsl,.nsl,.nsl])),oW 7 (.move (.c .nsl)),oW 8 (.move (.c .nsl)),oW 9 (.move (.c .nili))]
 (oQ [oM 16 2,oW 17 (.call (oF 24) [.t 16]),oM 15 17,oX 18 15 0,oX 19 15 1,oW 10 (.alloc 44 7 (.agg [.int .i64 0,.int .i64 0,.int .i64 0,.int .i64 0,.int .i64 0,.nsl,.nsl])),oS 7 10 18,oM 11 19]
 (.seq (oQ [oM 20 11,oW 21 (.eqn 4 true (.t 20) (.c .nili))]
 (.cond (.t 21) (.seq (.draw [oRL 22 6 3,oRM 23 1,oRM 24 11,nK 25 (.call (oF 55) [(.c (.str [98,114,111,107,101,114])),.t 23,.t 24]) .create 0,⟨none,.store 6 (.t 6) (.t 22),none,.write,1,false⟩,nK 7 (.move (.c .nsl)) .read 2,nK 8 (.move (.c .nsl)) .read 2,nK 9 (.move (.t 25)) .read 2])
 .ret) .skip))
 (oQ [oL 27 6 3,oM 28 1,oL 29 7 10,oW 30 (.call (oF 10) [.t 27,.t 28,.t 29]),oM 26 30,oX 31 26 0,oX 32 26 1,oX 33 26 2,oW 12 (.alloc 36 6 (.agg [.int .i64 0,.nsl,.nsl,.nsl,.nsl,.nsl])),oS 6 12 31,oM 13 32,oM 14 33]
 (oQ [oL 34 6 12,oM 35 13,oM 36 14,oS 6 6 34,oM 7 35,oM 8 36,oW 9 (.move (.c .nili))]
 .ret)))))}
theorem c18:aE Tryz.prog Tryz.f18 .full=some t18:=by kernel_rfl
def t19:aQ:={ntmps:=8,results:=[.t 2],mode:=.full,body :=
 (oQ [oW 2 (.move (oI 0))]
 (oQ [oW 3 (.alloc 65 1 (.int .i64 0))]
 (.seq (oQ [oM 4 0,oW 5 (.makeIface 122 (.t 3)),oW 6 (.call (oF 57) [.t 4,.t 5])]
 (.cond (.t 6) (oQ [oD 7 3,oM 2 7]
 .ret) .skip))
 (oQ [oW 2 (.move (oI 0))]
 .ret))))}
theorem c19:aE Tryz.prog Tryz.f19 .full=some t19:=by kernel_rfl
def AdD:aN :=
 (.seq (oQ [oM 11 5,oM 12 0,oW 13 (.len 1 (.t 12)),oW 14 (.arith .lss (.t 11) (.t 13))]
 (.cond (.t 14) .skip (.exit 0)))
 (.seq (.block 1 (.seq (.draw [oRM 17 0,oRM 18 5,oR 19 (.indexAddr 1 (.t 17) (.t 18)),oRD 20 19,oRM 21 1,oRM 22 5,oR 23 (.indexAddr 1 (.t 21) (.t 22)),oRD 24 23,oR 25 (.arith .neq (.t 20) (.t 24))])
 (.cond (.t 25) (oQ [oW 4 (.move (oB false))]
 .ret) .skip)))
 (.region [oM 15 5,oW 16 (.arith .add (.t 15) (oI 1)),oM 5 16])))
def AdE:aN :=
 (oQ [oW 4 (.move (oB true))]
 .ret)
def t20:aQ:={ntmps:=26,results:=[.t 4],mode:=.pure,body :=
 (oQ [oW 4 (.move (oB false))]
 (.seq (oQ [oM 6 0,oW 7 (.len 1 (.t 6)),oM 8 1,oW 9 (.len 1 (.t 8)),oW 10 (.arith .neq (.t 7) (.t 9))]
 (.cond (.t 10) (oQ [oW 4 (.move (oB false))]
 .ret) .skip))
 (.seq (oQ [oW 5 (.move (oI 0))]
 (.block 0 (.loop AdD)))
 AdE)))}
theorem c20:aE Tryz.prog Tryz.f20 .pure=some t20:=by kernel_rfl
def AdB:aN :=
 (oQ [oW 10 (.arith .lss (.t 9) (.t 8))]
 (.seq (.cond (.t 10) .skip (.exit 0))
 (.seq (.block 1 (oQ [oW 11 (.indexAddr 1 (.t 7) (.t 9)),oD 12 11,oM 5 12]
 (.region [oM 13 3,oM 14 5,oW 15 (.nilCheck (.t 14)),oA 16 0 15,oD 17 16,oW 18 (.buildSlice 9 1 (.str []) 1 [(0,.t 17)]),oW 19 (.append 9 1 16 (.t 13) (.t 18)),oM 3 19])))
 (.region [oW 20 (.arith .add (.t 9) (oI 1)),oM 9 20]))))
def AdC:aN :=
 (oQ [oM 21 3,oM 2 21]
 .ret)
def t21:aQ:={ntmps:=22,results:=[.t 2],mode:=.full,body :=
 (oQ [oW 2 (.move (.c .nsl))]
 (oQ [oW 3 (.move (.c .nsl))]
 (.seq (oQ [oM 6 0,oW 7 (.call (oF 58) [.t 6]),oW 8 (.len 1 (.t 7)),oW 9 (.move (oI 0))]
 (.block 0 (.loop AdB)))
 AdC)))}
theorem c21:aE Tryz.prog Tryz.f21 .full=some t21:=by kernel_rfl
def t22:aQ:={ntmps:=11,results:=[.t 2],mode:=.full,body :=
 (oQ [oW 2 (.move (oI 0))]
 (oQ [oW 3 (.alloc 125 1 .nilp)]
 (.seq (oQ [oM 4 0,oW 5 (.makeIface 128 (.t 3)),oW 6 (.call (oF 57) [.t 4,.t 5])]
 (.cond (.t 6) (oQ [oD 7 3,oW 8 (.nilCheck (.t 7)),oA 9 1 8,oD 10 9,oM 2 10]
 .ret) .skip))
 (oQ [oW 2 (.move (oI (-1)))]
 .ret))))}
theorem c22:aE Tryz.prog Tryz.f22 .full=some t22:=by kernel_rfl
def t23:aQ:={ntmps:=65,results:=[(.cell 6 (some 6)),.t 7,.t 8],mode:=.frz,body :=
 (oQ [oW 3 (.box 36 6 (.t 0)),oW 5 (.box 44 7 (.t 2)),oW 6 (.alloc 36 6 (.agg [.int .i64 0,.nsl,.nsl,.nsl,.nsl,.nsl])),oW 7 (.move (.c .nsl)),oW 8 (.move (.c .nsl))]
 (oQ [oW 9 (.move (.c .nsl))]
 (oQ [oW 10 (.move (.c .nsl))]
 (.seq (oQ [oA 11 0 5,oD 12 11]
 (.block 0 (oQ [oW 14 (.arith .eql (.t 12) (oI 1)),oM 13 14]
 (.cond (.t 13) (.region [oL 16 6 3,oM 17 1,oA 18 1 5,oL 19 2 18,oA 20 5 5,oD 21 20,oW 22 (.call (oF 31) [.t 16,.t 17,.t 19,.t 21]),oM 15 22,oX 23 15 0,oX 24 15 1,oS 6 3 23,oM 9 24]) (oQ [oW 26 (.arith .eql (.t 12) (oI 2)),oM 25 26]
 (.cond (.t 25) (.region [oL 28 6 3,oM 29 1,oA 30 1 5,oL 31 2 30,oW 32 (.call (oF 59) [.t 28,.t 29,.t 31]),oM 27 32,oX 33 27 0,oX 34 27 1,oS 6 3 33,oM 9 34]) (oQ [oW 36 (.arith .eql (.t 12) (oI 3)),oM 35 36]
 (.cond (.t 35) (.region [oL 38 6 3,oM 39 1,oL 40 7 5,oW 41 (.call (oF 60) [.t 38,.t 39,.t 40]),oM 37 41,oX 42 37 0,oX 43 37 1,oS 6 3 42,oM 9 43]) (oQ [oW 45 (.arith .eql (.t 12) (oI 4)),oM 44 45]
 (.cond (.t 44) (.region [oL 47 6 3,oM 48 1,oL 49 7 5,oW 50 (.call (oF 61) [.t 47,.t 48,.t 49]),oM 46 50,oX 51 46 0,oX 52 46 1,oS 6 3 51,oM 9 52]) (oQ [oW 54 (.arith .eql (.t 12) (oI 5)),oM 53 54]
 (.cond (.t 53) (.region [oL 56 6 3,oM 57 1,oL 58 7 5,oW 59 (.call (oF 62) [.t 56,.t 57,.t 58]),oM 55 59,oX 60 55 0,oX 61 55 1,oM 9 60,oM 10 61]) .skip))))))))))))
 (oQ [oL 62 6 3,oM 63 9,oM 64 10,oS 6 6 62,oM 7 63,oM 8 64]
 .ret)))))}
theorem c23:aE Tryz.prog Tryz.f23 .frz=some t23:=by kernel_rfl
def t24:aQ:={ntmps:=31,results:=[(.cell 2 (some 7)),.t 3],mode:=.full,body :=
 (oQ [oW 2 (.alloc 44 7 (.agg [.int .i64 0,.int .i64 0,.int .i64 0,.int .i64 0,.int .i64 0,.nsl,.nsl])),oW 3 (.move (.c .nili))]
 (oQ [oM 6 0,oW 7 (.call (oF 63) [.t 6]),oM 4 7]
 (oQ [oM 8 4,oW 9 (.call (oF 64) [.t 8]),oW 5 (.alloc 44 7 (.agg [.int .i64 0,.int .i64 0,.int .i64 0,.int .i64 0,.int .i64 0,.nsl,.nsl])),oS 7 5 9]
 (.seq (oQ [oM 10 4,oW 11 (.call (oF 65) [.t 10]),oW 12 (.un .not (.t 11)),oM 13 12,gL 14 7 5 13 false,gW 15 (.call (oF 54) [.t 14]) 13 false,gW 16 (.un .not (.t 15)) 13 false,oW 17 (.pick (.t 13) (oB true) (.t 16)),oM 18 17,gL 19 7 5 18 false,gW 20 (.call (oF 56) [.t 19]) 18 false,gM 21 0 18 false,gW 22 (.call (oF 66) [.t 20,.t 21]) 18 false,gW 23 (.un .not (.t 22)) 18 false,oW 24 (.pick (.t 18) (oB true) (.t 23))]
 (.cond (.t 24) (oQ [oW 25 (.build [.int .i64 0,.int .i64 0,.int .i64 0,.int .i64 0,.int .i64 0,.nsl,.nsl] []),oM 26 0,oW 27 (.len 1 (.t 26)),oW 28 (.makeIface 65 (oI 1)),oW 29 (.call (oF 55) [(.c (.str [119,105,114,101])),.t 27,.t 28]),oS 7 2 25,oM 3 29]
 .ret) .skip))
 (oQ [oL 30 7 5,oS 7 2 30,oW 3 (.move (.c .nili))]
 .ret)))))}
theorem c24:aE Tryz.prog Tryz.f24 .full=some t24:=by kernel_rfl
def t27:aQ:={ntmps:=21,results:=[.t 4],mode:=.pure,body :=
 (oQ [oW 2 (.box 36 6 (.t 0)),oW 4 (.move (oI 0))]
 (.seq (oQ [oM 6 1,oA 7 1 2,oD 8 7,oW 9 (.len 1 (.t 8)),oW 10 (.call (oF 8) [.t 6,oI 0,.t 9]),oM 5 10]
 (oQ [oM 11 5,oA 12 1 2,oD 13 12,oW 14 (.len 1 (.t 13)),oW 15 (.arith .lss (.t 11) (.t 14))]
 (.cond (.t 15) (oQ [oA 16 1 2,oD 17 16,oM 18 5,oW 19 (.indexAddr 1 (.t 17) (.t 18)),oD 20 19,oM 4 20]
 .ret) .skip)))
 (oQ [oW 4 (.move (oI (-1)))]
 .ret)))}
theorem c27:aE Tryz.prog Tryz.f27 .pure=some t27:=by kernel_rfl
def AA:aN :=
 (oQ [oW 9 (.arith .lss (.t 8) (.t 7))]
 (.seq (.cond (.t 9) .skip (.exit 0))
 (.seq (.block 1 (oQ [oM 10 8,oW 11 (.indexAddr 1 (.t 6) (.t 8)),oD 12 11,oM 4 10,oM 5 12]
 (oQ [oM 13 4,oA 14 0 1,oD 15 14,oW 16 (.len 1 (.t 15)),oW 17 (.arith .lss (.t 13) (.t 16)),oM 18 17,gA 19 0 1 18 true,gD 20 19 18 true,gM 21 4 18 true,gW 22 (.indexAddr 1 (.t 20) (.t 21)) 18 true,gD 23 22 18 true,gW 24 (.arith .and (.t 23) (oI 1)) 18 true,gW 25 (.arith .eql (.t 24) (oI 1)) 18 true,oW 26 (.pick (.t 18) (.t 25) (oB false)),oM 27 26,gM 28 3 27 true,gW 29 (.len 1 (.t 28)) 27 true,gW 30 (.arith .lss (.t 29) (oI 5)) 27 true,oW 31 (.pick (.t 27) (.t 30) (oB false))]
 (.cond (.t 31) (.region [oM 32 3,oM 33 5,oA 34 1 1,oD 35 34,oM 36 4,oW 37 (.call (oF 93) [.t 35,.t 36]),oW 38 (.call (oF 92) [.t 33,.t 37]),oW 39 (.buildSlice 96 5 (.agg [.str [],.int .i64 0,.int .i64 0,.int .i64 0,.str []]) 1 [(0,.t 38)]),oW 40 (.append 96 5 56 (.t 32) (.t 39)),oM 3 40]) .skip))))
 (.region [oW 41 (.arith .add (.t 8) (oI 1)),oM 8 41]))))
def KJ:aN :=
 (oQ [oM 42 3,oM 2 42]
 .ret)
def t28:aQ:={ntmps:=43,results:=[.t 2],mode:=.pure,body :=
 (oQ [oW 1 (.box 27 2 (.t 0)),oW 2 (.move (.c .nsl))]
 (oQ [oW 3 (.move (.c .nsl))]
 (.seq (oQ [oW 6 (.call (oF 91) []),oW 7 (.len 1 (.t 6)),oW 8 (.move (oI 0))]
 (.block 0 (.loop AA)))
 KJ)))}
theorem c28:aE Tryz.prog Tryz.f28 .pure=some t28:=by kernel_rfl
def Z9:aN :=
 (.seq (.seq (.draw [oRA 15 5 3,oRD 16 15,oRM 14 8,oR 17 (.len 1 (.t 16)),oR 18 (.arith .lss (.t 14) (.t 17)),oRM 19 18,rA 20 5 3 19 true,rD 21 20 19 true,rM 22 8 19 true,rW 23 (.indexAddr 3 (.t 21) (.t 22)) 19 true,rA 24 0 23 19 true,rL 25 2 24 19 true,rL 26 2 4 19 true,gW 27 (.call (oF 94) [.t 25,.t 26]) 19 true,nK 28 (.pick (.t 19) (.t 27) (oB false)) .read 1])
 (.cond (.t 28) .skip (.exit 0)))
 (.block 1 (.region [oM 29 8,oW 30 (.arith .add (.t 29) (oI 1)),oM 8 30])))
def Iq:aN :=
 (oQ [oW 68 (.arith .lss (.t 67) (.t 66))]
 (.seq (.cond (.t 68) .skip (.exit 2))
 (.seq (.block 3 (oQ [oW 69 (.indexAddr 4 (.t 65) (.t 67)),oL 70 4 69,oW 11 (.alloc 93 4 (.agg [.int .i64 0,.int .i64 0,.nsl,.int .i64 0])),oS 4 11 70]
 (.seq (oQ [oM 71 2,oA 72 2 11,oD 73 72,oW 74 (.call (oF 95) [.t 71,.t 73]),oW 75 (.un .not (.t 74))]
 (.cond (.t 75) (.exit 3) .skip))
 (oQ [oA 76 0 11,oL 77 2 76,oL 78 2 4,oM 79 2,oW 80 (.build [.int .i64 0,.int .i64 0,.int .i64 0,.int .i64 0,.nsl,.int .i64 0,.bool false] [(0,2,.t 77),(2,2,.t 78),(4,1,.t 79),(5,1,(oI (-1)))]),oW 12 (.alloc 114 7 (.agg [.int .i64 0,.int .i64 0,.int .i64 0,.int .i64 0,.nsl,.int .i64 0,.bool false])),oS 7 12 80]
 (oQ [oW 13 (.move (oB false))]
 (oQ [oL 82 6 3,oL 83 7 12,oW 84 (.call (oF 96) [.t 82,.t 83]),oM 81 84,oX 85 81 0,oX 86 81 1,oS 6 3 85,oM 13 86]
 (oQ [oM 87 13]
 (.cond (.t 87) (.draw [oRA 89 3 11,oRD 90 89,oRL 91 7 12,nK 92 (.call (oF 97) [.t 91]) .create 0,oRM 88 9,nK 93 (.build [.int .i64 0,.int .i64 0,.int .i64 0,.int .i64 0,.int .i64 0,.int .i64 0,.nsl,.nsl] [(0,1,.t 90),(1,7,.t 92)]) .read 1,nK 94 (.buildSlice 100 8 (.agg [.int .i64 0,.int .i64 0,.int .i64 0,.int .i64 0,.int .i64 0,.int .i64 0,.nsl,.nsl]) 1 [(0,.t 93)]) .create 0,nK 95 (.append 100 8 96 (.t 88) (.t 94)) .write 2,nK 9 (.move (.t 95)) .read 3]) .skip))))))))
 (.region [oW 96 (.arith .add (.t 67) (oI 1)),oM 67 96]))))
def Vy:aN :=
 (oQ [oL 97 6 3,oM 98 9,oS 6 6 97,oM 7 98]
 .ret)
def Og:aN :=
 (.seq (.seq (.draw [oRA 32 5 3,oRD 33 32,oRM 31 8,oR 34 (.len 1 (.t 33)),oR 35 (.arith .lss (.t 31) (.t 34)),oRM 36 35,rA 37 5 3 36 true,rD 38 37 36 true,rM 39 8 36 true,rW 40 (.indexAddr 3 (.t 38) (.t 39)) 36 true,rA 41 0 40 36 true,rL 42 2 41 36 true,rL 43 2 4 36 true,rW 44 (.eqa false [1,1] (.t 42) (.t 43)) 36 true,oR 45 (.pick (.t 36) (.t 44) (oB false))])
 (.cond (.t 45) (oQ [oL 46 6 3,oS 6 6 46,oW 7 (.move (.c .nsl))]
 .ret) .skip))
 (.seq (.draw [oRA 48 5 3,oRD 49 48,oRM 50 8,oR 51 (.sliceSl 3 (.t 49) none (some (.t 50))),nK 47 (.buildSlice 98 3 (.agg [.int .i64 0,.int .i64 0,.nsl]) 0 []) .create 0,nK 52 (.append 98 3 40 (.t 47) (.t 51)) .create 0,oRL 53 2 4,oRM 54 2,oR 55 (.build [.int .i64 0,.int .i64 0,.nsl] [(0,2,.t 53),(2,1,.t 54)]),nK 56 (.buildSlice 98 3 (.agg [.int .i64 0,.int .i64 0,.nsl]) 1 [(0,.t 55)]) .create 0,nK 57 (.append 98 3 40 (.t 52) (.t 56)) .create 0,oRA 58 5 3,oRD 59 58,oRM 60 8,oR 61 (.sliceSl 3 (.t 59) (some (.t 60)) none),nK 62 (.append 98 3 40 (.t 57) (.t 61)) .write 4,nK 63 (.fieldAddr 5 (.t 3)) .read 5,⟨none,.store 1 (.t 63) (.t 62),none,.write,5,false⟩])
 (oQ [oW 9 (.move (.c .nsl))]
 (.seq (oQ [oA 64 2 3,oD 65 64,oW 66 (.len 1 (.t 65)),oW 67 (.move (oI 0))]
 (.block 2 (.loop Iq)))
 Vy))))
def t29:aQ:={ntmps:=99,results:=[(.cell 6 (some 6)),.t 7],mode:=.frz,body :=
 (oQ [oW 3 (.box 36 6 (.t 0)),oW 4 (.box 40 2 (.t 1)),oW 6 (.alloc 36 6 (.agg [.int .i64 0,.nsl,.nsl,.nsl,.nsl,.nsl])),oW 7 (.move (.c .nsl))]
 (oQ [oW 8 (.move (oI 0))]
 (.seq (.block 0 (.loop Z9))
 Og)))}
theorem c29:aE Tryz.prog Tryz.f29 .frz=some t29:=by kernel_rfl
def Z8:aN :=
 (oQ [oW 18 (.arith .lss (.t 17) (.t 16))]
 (.seq (.cond (.t 18) .skip (.exit 0))
 (.seq (.block 1 (oQ [oW 19 (.indexAddr 3 (.t 15) (.t 17)),oL 20 3 19,oW 8 (.alloc 98 3 (.agg [.int .i64 0,.int .i64 0,.nsl])),oS 3 8 20]
 (oQ [oA 21 0 8,oL 22 2 21,oL 23 2 3,oW 24 (.eqa true [1,1] (.t 22) (.t 23))]
 (.cond (.t 24) (.region [oM 25 6,oL 26 3 8,oW 27 (.buildSlice 98 3 (.agg [.int .i64 0,.int .i64 0,.nsl]) 1 [(0,.t 26)]),oW 28 (.append 98 3 40 (.t 25) (.t 27)),oM 6 28]) .skip))))
 (.region [oW 29 (.arith .add (.t 17) (oI 1)),oM 17 29]))))
def Ip:aN :=
 (oQ [oW 43 (.arith .lss (.t 42) (.t 41))]
 (.seq (.cond (.t 43) .skip (.exit 2))
 (.seq (.block 3 (oQ [oW 44 (.indexAddr 4 (.t 40) (.t 42)),oL 45 4 44,oW 11 (.alloc 93 4 (.agg [.int .i64 0,.int .i64 0,.nsl,.int .i64 0])),oS 4 11 45]
 (oQ [oL 47 6 2,oA 48 0 11,oL 49 2 48,oL 50 2 3,oW 51 (.call (oF 98) [.t 47,.t 49,.t 50,(oI (-1))]),oM 46 51,oX 52 46 0,oX 53 46 1,oW 12 (.alloc 36 6 (.agg [.int .i64 0,.nsl,.nsl,.nsl,.nsl,.nsl])),oS 6 12 52,oM 13 53]
 (.draw [oRL 54 6 12,nK 55 (.buildSlice 100 8 (.agg [.int .i64 0,.int .i64 0,.int .i64 0,.int .i64 0,.int .i64 0,.int .i64 0,.nsl,.nsl]) 0 []) .create 0,oRM 56 9,nK 57 (.append 100 8 96 (.t 55) (.t 56)) .create 0,oRM 58 13,nK 59 (.append 100 8 96 (.t 57) (.t 58)) .create 0,⟨none,.store 6 (.t 2) (.t 54),none,.write,3,false⟩,nK 9 (.move (.t 59)) .read 4]))))
 (.region [oW 60 (.arith .add (.t 42) (oI 1)),oM 42 60]))))
def Vx:aN :=
 (oQ [oL 61 6 2,oM 62 9,oS 6 4 61,oM 5 62]
 .ret)
def Vw:aN :=
 (.seq (oQ [oM 30 6,oW 31 (.len 1 (.t 30)),oA 32 5 2,oD 33 32,oW 34 (.len 1 (.t 33)),oW 35 (.arith .eql (.t 31) (.t 34))]
 (.cond (.t 35) (oQ [oL 36 6 2,oS 6 4 36,oW 5 (.move (.c .nsl))]
 .ret) .skip))
 (oQ [oM 37 6,oA 38 5 2,oS 1 38 37]
 (oQ [oW 9 (.move (.c .nsl))]
 (.seq (oQ [oA 39 2 2,oD 40 39,oW 41 (.len 1 (.t 40)),oW 42 (.move (oI 0))]
 (.block 2 (.loop Ip)))
 Vx))))
def t30:aQ:={ntmps:=63,results:=[(.cell 4 (some 6)),.t 5],mode:=.frz,body :=
 (oQ [oW 2 (.box 36 6 (.t 0)),oW 3 (.box 40 2 (.t 1)),oW 4 (.alloc 36 6 (.agg [.int .i64 0,.nsl,.nsl,.nsl,.nsl,.nsl])),oW 5 (.move (.c .nsl))]
 (oQ [oW 6 (.move (.c .nsl))]
 (.seq (oQ [oA 14 5 2,oD 15 14,oW 16 (.len 1 (.t 15)),oW 17 (.move (oI 0))]
 (.block 0 (.loop Z8)))
 Vw)))}
theorem c30:aE Tryz.prog Tryz.f30 .frz=some t30:=by kernel_rfl
def Z7:aN :=
 (oQ [oW 38 (.arith .lss (.t 37) (.t 36))]
 (.seq (.cond (.t 38) .skip (.exit 0))
 (.seq (.block 1 (oQ [oW 39 (.indexAddr 3 (.t 35) (.t 37)),oL 40 3 39,oW 13 (.alloc 98 3 (.agg [.int .i64 0,.int .i64 0,.nsl])),oS 3 13 40]
 (.seq (oQ [oA 41 2 13,oD 42 41,oM 43 3,oW 44 (.call (oF 95) [.t 42,.t 43]),oW 45 (.un .not (.t 44))]
 (.cond (.t 45) (.exit 1) .skip))
 (oQ [oL 46 2 6,oA 47 0 13,oL 48 2 47,oA 49 2 13,oD 50 49,oW 51 (.build [.int .i64 0,.int .i64 0,.int .i64 0,.int .i64 0,.nsl,.int .i64 0,.bool false] [(0,2,.t 46),(2,2,.t 48),(4,1,.t 50),(5,1,(oI (-1)))]),oW 14 (.alloc 114 7 (.agg [.int .i64 0,.int .i64 0,.int .i64 0,.int .i64 0,.nsl,.int .i64 0,.bool false])),oS 7 14 51]
 (oQ [oW 15 (.move (oB false))]
 (oQ [oL 53 6 4,oL 54 7 14,oW 55 (.call (oF 96) [.t 53,.t 54]),oM 52 55,oX 56 52 0,oX 57 52 1,oS 6 4 56,oM 15 57]
 (oQ [oM 58 15]
 (.cond (.t 58) (.region [oM 59 11,oM 60 1,oL 61 7 14,oW 62 (.call (oF 97) [.t 61]),oW 63 (.build [.int .i64 0,.int .i64 0,.int .i64 0,.int .i64 0,.int .i64 0,.int .i64 0,.nsl,.nsl] [(0,1,.t 60),(1,7,.t 62)]),oW 64 (.buildSlice 100 8 (.agg [.int .i64 0,.int .i64 0,.int .i64 0,.int .i64 0,.int .i64 0,.int .i64 0,.nsl,.nsl]) 1 [(0,.t 63)]),oW 65 (.append 100 8 96 (.t 59) (.t 64)),oM 11 65]) .skip))))))))
 (.region [oW 66 (.arith .add (.t 37) (oI 1)),oM 37 66]))))
def KI:aN :=
 (oQ [oL 67 6 4,oM 68 11,oS 6 8 67,oM 9 68]
 .ret)
def t31:aQ:={ntmps:=69,results:=[(.cell 8 (some 6)),.t 9],mode:=.frz,body :=
 (oQ [oW 4 (.box 36 6 (.t 0)),oW 6 (.box 40 2 (.t 2)),oW 8 (.alloc 36 6 (.agg [.int .i64 0,.nsl,.nsl,.nsl,.nsl,.nsl])),oW 9 (.move (.c .nsl))]
 (oQ [oL 17 6 4,oL 18 2 6,oM 19 3,oM 20 1,oW 21 (.build [.int .i64 0,.int .i64 0,.nsl,.int .i64 0] [(0,2,.t 18),(2,1,.t 19),(3,1,.t 20)]),oW 22 (.call (oF 99) [.t 17,.t 21]),oM 16 22,oX 23 16 0,oX 24 16 1,oS 6 4 23,oM 10 24]
 (.seq (oQ [oM 25 10,oW 26 (.un .not (.t 25))]
 (.cond (.t 26) (oQ [oL 27 6 4,oS 6 8 27,oW 9 (.move (.c .nsl))]
 .ret) .skip))
 (oQ [oL 28 6 4,oM 29 1,oL 30 2 6,oM 31 3,oW 32 (.build [.int .i64 0,.int .i64 0,.int .i64 0,.int .i64 0,.int .i64 0,.nsl,.nsl] [(0,1,oI 1),(1,2,.t 30),(5,1,.t 31)]),oW 33 (.call (oF 100) [.t 28,.t 29,.t 32]),oM 11 33]
 (.seq (oQ [oA 34 5 4,oD 35 34,oW 36 (.len 1 (.t 35)),oW 37 (.move (oI 0))]
 (.block 0 (.loop Z7)))
 KI)))))}
theorem c31:aE Tryz.prog Tryz.f31 .frz=some t31:=by kernel_rfl
def Z6:aN :=
 (oQ [oW 9 (.arith .lss (.t 8) (.t 7))]
 (.seq (.cond (.t 9) .skip (.exit 0))
 (.seq (.block 1 (oQ [oM 10 8,oW 11 (.indexAddr 1 (.t 6) (.t 8)),oD 12 11,oM 4 10,oM 5 12]
 (oQ [oM 13 4,oA 14 0 1,oD 15 14,oW 16 (.len 1 (.t 15)),oW 17 (.arith .lss (.t 13) (.t 16)),oM 18 17,gA 19 0 1 18 true,gD 20 19 18 true,gM 21 4 18 true,gW 22 (.indexAddr 1 (.t 20) (.t 21)) 18 true,gD 23 22 18 true,gW 24 (.arith .and (.t 23) (oI 1)) 18 true,gW 25 (.arith .eql (.t 24) (oI 1)) 18 true,oW 26 (.pick (.t 18) (.t 25) (oB false)),oM 27 26,gM 28 3 27 true,gW 29 (.len 1 (.t 28)) 27 true,gW 30 (.arith .lss (.t 29) (oI 5)) 27 true,oW 31 (.pick (.t 27) (.t 30) (oB false))]
 (.cond (.t 31) (.region [oM 32 3,oM 33 5,oA 34 1 1,oD 35 34,oM 36 4,oW 37 (.call (oF 93) [.t 35,.t 36]),oW 38 (.call (oF 101) [.t 37]),oW 39 (.build [.str [],.bool false,.int .i64 0,.str []] [(0,1,.t 33),(1,3,.t 38)]),oW 40 (.buildSlice 108 4 (.agg [.str [],.bool false,.int .i64 0,.str []]) 1 [(0,.t 39)]),oW 41 (.append 108 4 48 (.t 32) (.t 40)),oM 3 41]) .skip))))
 (.region [oW 42 (.arith .add (.t 8) (oI 1)),oM 8 42]))))
def KH:aN :=
 (oQ [oM 43 3,oM 2 43]
 .ret)
def t32:aQ:={ntmps:=44,results:=[.t 2],mode:=.pure,body :=
 (oQ [oW 1 (.box 28 2 (.t 0)),oW 2 (.move (.c .nsl))]
 (oQ [oW 3 (.move (.c .nsl))]
 (.seq (oQ [oW 6 (.call (oF 91) []),oW 7 (.len 1 (.t 6)),oW 8 (.move (oI 0))]
 (.block 0 (.loop Z6)))
 KH)))}
theorem c32:aE Tryz.prog Tryz.f32 .pure=some t32:=by kernel_rfl
def Z5:aN :=
 (oQ [oW 39 (.arith .lss (.t 38) (.t 37))]
 (.seq (.cond (.t 39) .skip (.exit 0))
 (.seq (.block 1 (oQ [oW 40 (.indexAddr 3 (.t 36) (.t 38)),oL 41 3 40,oW 14 (.alloc 98 3 (.agg [.int .i64 0,.int .i64 0,.nsl])),oS 3 14 41]
 (.seq (oQ [oA 42 2 14,oD 43 42,oM 44 3,oW 45 (.call (oF 104) [.t 43,.t 44]),oW 46 (.un .not (.t 45))]
 (.cond (.t 46) (.exit 1) .skip))
 (oQ [oL 47 2 6,oA 48 0 14,oL 49 2 48,oA 50 2 14,oD 51 50,oW 52 (.build [.int .i64 0,.int .i64 0,.int .i64 0,.int .i64 0,.nsl,.int .i64 0,.bool false] [(0,2,.t 47),(2,2,.t 49),(4,1,.t 51),(5,1,(oI (-1)))]),oW 15 (.alloc 114 7 (.agg [.int .i64 0,.int .i64 0,.int .i64 0,.int .i64 0,.nsl,.int .i64 0,.bool false])),oS 7 15 52]
 (oQ [oW 16 (.move (oB false))]
 (oQ [oL 54 6 10,oL 55 7 15,oW 56 (.call (oF 105) [.t 54,.t 55]),oM 53 56,oX 57 53 0,oX 58 53 1,oS 6 10 57,oM 16 58]
 (oQ [oM 59 16]
 (.cond (.t 59) (.region [oM 60 12,oM 61 1,oL 62 7 15,oW 63 (.call (oF 106) [.t 62]),oW 64 (.build [.int .i64 0,.int .i64 0,.int .i64 0,.int .i64 0,.int .i64 0,.int .i64 0,.nsl,.nsl] [(0,1,.t 61),(1,7,.t 63)]),oW 65 (.buildSlice 100 8 (.agg [.int .i64 0,.int .i64 0,.int .i64 0,.int .i64 0,.int .i64 0,.int .i64 0,.nsl,.nsl]) 1 [(0,.t 64)]),oW 66 (.append 100 8 96 (.t 60) (.t 65)),oM 12 66]) .skip))))))))
 (.region [oW 67 (.arith .add (.t 38) (oI 1)),oM 38 67]))))
def KG:aN :=
 (oQ [oL 68 6 10,oM 69 12,oS 6 8 68,oM 9 69]
 .ret)
def t33:aQ:={ntmps:=70,results:=[(.cell 8 (some 6)),.t 9],mode:=.frz,body :=
 (oQ [oW 4 (.box 36 6 (.t 0)),oW 6 (.box 40 2 (.t 2)),oW 8 (.alloc 36 6 (.agg [.int .i64 0,.nsl,.nsl,.nsl,.nsl,.nsl])),oW 9 (.move (.c .nsl))]
 (oQ [oL 18 6 4,oL 19 2 6,oM 20 3,oM 21 1,oW 22 (.build [.int .i64 0,.int .i64 0,.nsl,.int .i64 0] [(0,2,.t 19),(2,1,.t 20),(3,1,.t 21)]),oW 23 (.call (oF 102) [.t 18,.t 22]),oM 17 23,oX 24 17 0,oX 25 17 1,oW 10 (.alloc 36 6 (.agg [.int .i64 0,.nsl,.nsl,.nsl,.nsl,.nsl])),oS 6 10 24,oM 11 25]
 (.seq (oQ [oM 26 11,oW 27 (.un .not (.t 26))]
 (.cond (.t 27) (oQ [oL 28 6 4,oS 6 8 28,oW 9 (.move (.c .nsl))]
 .ret) .skip))
 (oQ [oL 29 6 4,oM 30 1,oL 31 2 6,oM 32 3,oW 33 (.build [.int .i64 0,.int .i64 0,.int .i64 0,.int .i64 0,.int .i64 0,.nsl,.nsl] [(0,1,oI 1),(1,2,.t 31),(5,1,.t 32)]),oW 34 (.call (oF 103) [.t 29,.t 30,.t 33]),oM 12 34]
 (.seq (oQ [oA 35 5 4,oD 36 35,oW 37 (.len 1 (.t 36)),oW 38 (.move (oI 0))]
 (.block 0 (.loop Z5)))
 KG)))))}
theorem c33:aE Tryz.prog Tryz.f33 .frz=some t33:=by kernel_rfl
def t34:aQ:={ntmps:=26,results:=[(.cell 6 (some 6)),.t 7],mode:=.frz,body :=
 (oQ [oW 3 (.box 36 6 (.t 0)),oW 5 (.box 40 2 (.t 2)),oW 6 (.alloc 36 6 (.agg [.int .i64 0,.nsl,.nsl,.nsl,.nsl,.nsl])),oW 7 (.move (.c .nsl))]
 (oQ [oL 11 6 3,oL 12 2 5,oM 13 1,oW 14 (.call (oF 107) [.t 11,.t 12,.t 13]),oM 10 14,oX 15 10 0,oX 16 10 1,oW 8 (.alloc 36 6 (.agg [.int .i64 0,.nsl,.nsl,.nsl,.nsl,.nsl])),oS 6 8 15,oM 9 16]
 (.seq (oQ [oM 17 9,oW 18 (.un .not (.t 17))]
 (.cond (.t 18) (oQ [oL 19 6 3,oS 6 6 19,oW 7 (.move (.c .nsl))]
 .ret) .skip))
 (.seq (.draw [oRL 20 6 8,oRL 21 6 3,oRL 23 2 5,oRM 22 1,oR 24 (.build [.int .i64 0,.int .i64 0,.int .i64 0,.int .i64 0,.int .i64 0,.nsl,.nsl] [(0,1,oI 2),(1,2,.t 23)]),nK 25 (.call (oF 103) [.t 21,.t 22,.t 24]) .create 0,⟨none,.store 6 (.t 6) (.t 20),none,.write,1,false⟩,nK 7 (.move (.t 25)) .read 2])
 .ret))))}
theorem c34:aE Tryz.prog Tryz.f34 .frz=some t34:=by kernel_rfl
def t35:aQ:={ntmps:=20,results:=[(.cell 6 (some 6)),.t 7],mode:=.frz,body :=
 (oQ [oW 3 (.box 36 6 (.t 0)),oW 5 (.box 44 7 (.t 2)),oW 6 (.alloc 36 6 (.agg [.int .i64 0,.nsl,.nsl,.nsl,.nsl,.nsl])),oW 7 (.move (.c .nsl))]
 (oQ [oL 8 6 3,oA 9 1 5,oL 10 2 9,oA 11 3 5,oL 12 2 11,oA 13 5 5,oD 14 13,oM 15 1,oW 16 (.build [.int .i64 0,.int .i64 0,.int .i64 0,.int .i64 0,.nsl,.int .i64 0,.bool false] [(0,2,.t 10),(2,2,.t 12),(4,1,.t 14),(5,1,.t 15)]),oW 17 (.call (oF 108) [.t 8,.t 16]),oX 18 17 0,oX 19 17 1,oS 6 6 18,oM 7 19]
 .ret))}
theorem c35:aE Tryz.prog Tryz.f35 .frz=some t35:=by kernel_rfl
def t36:aQ:={ntmps:=17,results:=[(.cell 6 (some 6)),.t 7],mode:=.frz,body :=
 (oQ [oW 3 (.box 36 6 (.t 0)),oW 5 (.box 44 7 (.t 2)),oW 6 (.alloc 36 6 (.agg [.int .i64 0,.nsl,.nsl,.nsl,.nsl,.nsl])),oW 7 (.move (.c .nsl))]
 (oQ [oL 8 6 3,oA 9 1 5,oL 10 2 9,oA 11 3 5,oL 12 2 11,oM 13 1,oW 14 (.call (oF 109) [.t 8,.t 10,.t 12,.t 13]),oX 15 14 0,oX 16 14 1,oS 6 6 15,oM 7 16]
 .ret))}
theorem c36:aE Tryz.prog Tryz.f36 .frz=some t36:=by kernel_rfl
def Z2:aN :=
 (oQ [oW 39 (.arith .lss (.t 38) (.t 37))]
 (.seq (.cond (.t 39) .skip (.exit 0))
 (.seq (.block 1 (oQ [oW 40 (.indexAddr 1 (.t 36) (.t 38)),oD 41 40,oM 13 41]
 (.region [oM 42 10,oM 43 13,oL 44 7 5,oW 45 (.build [.int .i64 0,.int .i64 0,.int .i64 0,.int .i64 0,.int .i64 0,.int .i64 0,.nsl,.nsl] [(0,1,.t 43),(1,7,.t 44)]),oW 46 (.buildSlice 100 8 (.agg [.int .i64 0,.int .i64 0,.int .i64 0,.int .i64 0,.int .i64 0,.int .i64 0,.nsl,.nsl]) 1 [(0,.t 45)]),oW 47 (.append 100 8 96 (.t 42) (.t 46)),oM 10 47])))
 (.region [oW 48 (.arith .add (.t 38) (oI 1)),oM 38 48]))))
def Z1:aN :=
 (oQ [oW 55 (.arith .lss (.t 54) (.t 53))]
 (.seq (.cond (.t 55) .skip (.exit 2))
 (.seq (.block 3 (oQ [oW 56 (.indexAddr 1 (.t 52) (.t 54)),oD 57 56,oM 15 57]
 (.region [oM 58 11,oM 59 15,oA 60 3 5,oL 61 2 60,oA 62 6 5,oD 63 62,oW 64 (.build [.int .i64 0,.int .i64 0,.int .i64 0,.nsl] [(0,1,.t 59),(1,2,.t 61),(3,1,.t 63)]),oW 65 (.buildSlice 103 4 (.agg [.int .i64 0,.int .i64 0,.int .i64 0,.nsl]) 1 [(0,.t 64)]),oW 66 (.append 103 4 48 (.t 58) (.t 65)),oM 11 66])))
 (.region [oW 67 (.arith .add (.t 54) (oI 1)),oM 54 67]))))
def Z4:aN :=
 (oQ [oM 68 10,oM 69 11,oM 6 68,oM 7 69]
 .ret)
def Z3:aN :=
 (.seq (oQ [oL 49 6 3,oA 50 6 5,oD 51 50,oW 52 (.call (oF 111) [.t 49,.t 51]),oW 53 (.len 1 (.t 52)),oW 54 (.move (oI 0))]
 (.block 2 (.loop Z1)))
 Z4)
def t37:aQ:={ntmps:=70,results:=[.t 6,.t 7],mode:=.frz,body :=
 (oQ [oW 3 (.box 36 6 (.t 0)),oW 5 (.box 44 7 (.t 2)),oW 6 (.move (.c .nsl)),oW 7 (.move (.c .nsl))]
 (oQ [oL 17 6 3,oA 18 1 5,oL 19 2 18,oW 20 (.call (oF 89) [.t 17,.t 19]),oM 16 20,oX 21 16 0,oX 22 16 1,oW 8 (.alloc 93 4 (.agg [.int .i64 0,.int .i64 0,.nsl,.int .i64 0])),oS 4 8 21,oM 9 22]
 (.seq (oQ [oM 23 9,oW 24 (.un .not (.t 23)),oM 25 24,gA 26 3 8 25 false,gD 27 26 25 false,gM 28 1 25 false,gW 29 (.arith .neq (.t 27) (.t 28)) 25 false,oW 30 (.pick (.t 25) (oB true) (.t 29))]
 (.cond (.t 30) (oQ [oW 6 (.move (.c .nsl)),oW 7 (.move (.c .nsl))]
 .ret) .skip))
 (oQ [oW 10 (.move (.c .nsl))]
 (oQ [oW 11 (.move (.c .nsl))]
 (.seq (oQ [oL 31 6 3,oA 32 1 5,oL 33 2 32,oA 34 6 5,oD 35 34,oW 36 (.call (oF 110) [.t 31,.t 33,.t 35]),oW 37 (.len 1 (.t 36)),oW 38 (.move (oI 0))]
 (.block 0 (.loop Z2)))
 Z3))))))}
theorem c37:aE Tryz.prog Tryz.f37 .frz=some t37:=by kernel_rfl
def Z0:aN :=
 (.seq (oQ [oM 11 5,oM 12 0,oW 13 (.len 1 (.t 12)),oW 14 (.arith .lss (.t 11) (.t 13))]
 (.cond (.t 14) .skip (.exit 0)))
 (.seq (.block 1 (.seq (.draw [oRM 17 0,oRM 18 5,oR 19 (.indexAddr 5 (.t 17) (.t 18)),oRL 20 5 19,oRM 21 1,oRM 22 5,oR 23 (.indexAddr 5 (.t 21) (.t 22)),oRL 24 5 23,oR 25 (.eqa true [2,1,1,1,2] (.t 20) (.t 24))])
 (.cond (.t 25) (oQ [oW 4 (.move (oB false))]
 .ret) .skip)))
 (.region [oM 15 5,oW 16 (.arith .add (.t 15) (oI 1)),oM 5 16])))
def KF:aN :=
 (oQ [oW 4 (.move (oB true))]
 .ret)
def t41:aQ:={ntmps:=26,results:=[.t 4],mode:=.pure,body :=
 (oQ [oW 4 (.move (oB false))]
 (.seq (oQ [oM 6 0,oW 7 (.len 1 (.t 6)),oM 8 1,oW 9 (.len 1 (.t 8)),oW 10 (.arith .neq (.t 7) (.t 9))]
 (.cond (.t 10) (oQ [oW 4 (.move (oB false))]
 .ret) .skip))
 (.seq (oQ [oW 5 (.move (oI 0))]
 (.block 0 (.loop Z0)))
 KF)))}
theorem c41:aE Tryz.prog Tryz.f41 .pure=some t41:=by kernel_rfl
def t42:aQ:={ntmps:=38,results:=[.t 4],mode:=.pure,body :=
 (oQ [oW 2 (.box 44 7 (.t 0)),oW 3 (.box 44 7 (.t 1)),oW 4 (.move (oB false))]
 (oQ [oA 5 0 2,oD 6 5,oA 7 0 3,oD 8 7,oW 9 (.arith .eql (.t 6) (.t 8)),oM 10 9,gA 11 1 2 10 true,gL 12 2 11 10 true,gA 13 1 3 10 true,gL 14 2 13 10 true,gW 15 (.eqa false [1,1] (.t 12) (.t 14)) 10 true,oW 16 (.pick (.t 10) (.t 15) (oB false)),oM 17 16,gA 18 3 2 17 true,gL 19 2 18 17 true,gA 20 3 3 17 true,gL 21 2 20 17 true,gW 22 (.eqa false [1,1] (.t 19) (.t 21)) 17 true,oW 23 (.pick (.t 17) (.t 22) (oB false)),oM 24 23,gA 25 5 2 24 true,gD 26 25 24 true,gA 27 5 3 24 true,gD 28 27 24 true,gW 29 (.call (oF 41) [.t 26,.t 28]) 24 true,oW 30 (.pick (.t 24) (.t 29) (oB false)),oM 31 30,gA 32 6 2 31 true,gD 33 32 31 true,gA 34 6 3 31 true,gD 35 34 31 true,gW 36 (.call (oF 43) [.t 33,.t 35]) 31 true,oW 37 (.pick (.t 31) (.t 36) (oB false)),oM 4 37]
 .ret))}
theorem c42:aE Tryz.prog Tryz.f42 .pure=some t42:=by kernel_rfl
def Y9:aN :=
 (.seq (oQ [oM 11 5,oM 12 0,oW 13 (.len 1 (.t 12)),oW 14 (.arith .lss (.t 11) (.t 13))]
 (.cond (.t 14) .skip (.exit 0)))
 (.seq (.block 1 (.seq (.draw [oRM 17 0,oRM 18 5,oR 19 (.indexAddr 4 (.t 17) (.t 18)),oRL 20 4 19,oRM 21 1,oRM 22 5,oR 23 (.indexAddr 4 (.t 21) (.t 22)),oRL 24 4 23,oR 25 (.eqa true [2,0,1,2] (.t 20) (.t 24))])
 (.cond (.t 25) (oQ [oW 4 (.move (oB false))]
 .ret) .skip)))
 (.region [oM 15 5,oW 16 (.arith .add (.t 15) (oI 1)),oM 5 16])))
def KE:aN :=
 (oQ [oW 4 (.move (oB true))]
 .ret)
def t43:aQ:={ntmps:=26,results:=[.t 4],mode:=.pure,body :=
 (oQ [oW 4 (.move (oB false))]
 (.seq (oQ [oM 6 0,oW 7 (.len 1 (.t 6)),oM 8 1,oW 9 (.len 1 (.t 8)),oW 10 (.arith .neq (.t 7) (.t 9))]
 (.cond (.t 10) (oQ [oW 4 (.move (oB false))]
 .ret) .skip))
 (.seq (oQ [oW 5 (.move (oI 0))]
 (.block 0 (.loop Y9)))
 KE)))}
theorem c43:aE Tryz.prog Tryz.f43 .pure=some t43:=by kernel_rfl
def t44:aQ:={ntmps:=14,results:=[(.cell 4 (some 6))],mode:=.pure,body :=
 (oQ [oW 4 (.alloc 36 6 (.agg [.int .i64 0,.nsl,.nsl,.nsl,.nsl,.nsl]))]
 (oQ [oM 6 1,oW 7 (.call (oF 112) [.t 6]),oM 5 7]
 (oQ [oM 8 5,oW 9 (.call (oF 113) [.t 8])]
 (oQ [oM 10 0,oM 11 5,oW 12 (.call (oF 114) [.t 11]),oW 13 (.build [.int .i64 0,.nsl,.nsl,.nsl,.nsl,.nsl] [(0,1,.t 10),(1,1,.t 12)]),oS 6 4 13]
 .ret))))}
theorem c44:aE Tryz.prog Tryz.f44 .pure=some t44:=by kernel_rfl
def Y8:aN :=
 (oQ [oW 14 (.arith .lss (.t 13) (.t 12))]
 (.seq (.cond (.t 14) .skip (.exit 0))
 (.seq (.block 1 (oQ [oM 15 13,oM 5 15]
 (.seq (.draw [oRM 16 0,oRM 17 5,oR 18 (.indexAddr 1 (.t 16) (.t 17)),oRD 19 18,oRM 20 1,oRM 21 5,oR 22 (.indexAddr 1 (.t 20) (.t 21)),oRD 23 22,oR 24 (.arith .neq (.t 19) (.t 23))])
 (.cond (.t 24) (oQ [oW 4 (.move (oB false))]
 .ret) .skip))))
 (.region [oW 25 (.arith .add (.t 13) (oI 1)),oM 13 25]))))
def KD:aN :=
 (oQ [oW 4 (.move (oB true))]
 .ret)
def t45:aQ:={ntmps:=26,results:=[.t 4],mode:=.pure,body :=
 (oQ [oW 4 (.move (oB false))]
 (.seq (oQ [oM 6 0,oW 7 (.len 1 (.t 6)),oM 8 1,oW 9 (.len 1 (.t 8)),oW 10 (.arith .neq (.t 7) (.t 9))]
 (.cond (.t 10) (oQ [oW 4 (.move (oB false))]
 .ret) .skip))
 (.seq (oQ [oM 11 0,oW 12 (.len 1 (.t 11)),oW 13 (.move (oI 0))]
 (.block 0 (.loop Y8)))
 KD)))}
theorem c45:aE Tryz.prog Tryz.f45 .pure=some t45:=by kernel_rfl
def Y7:aN :=
 (oQ [oW 14 (.arith .lss (.t 13) (.t 12))]
 (.seq (.cond (.t 14) .skip (.exit 0))
 (.seq (.block 1 (oQ [oM 15 13,oM 5 15]
 (.seq (.draw [oRM 16 0,oRM 17 5,oR 18 (.indexAddr 2 (.t 16) (.t 17)),oRL 19 2 18,oRM 20 1,oRM 21 5,oR 22 (.indexAddr 2 (.t 20) (.t 21)),oRL 23 2 22,oR 24 (.eqa true [1,1] (.t 19) (.t 23))])
 (.cond (.t 24) (oQ [oW 4 (.move (oB false))]
 .ret) .skip))))
 (.region [oW 25 (.arith .add (.t 13) (oI 1)),oM 13 25]))))
def KC:aN :=
 (oQ [oW 4 (.move (oB true))]
 .ret)
def t46:aQ:={ntmps:=26,results:=[.t 4],mode:=.pure,body :=
 (oQ [oW 4 (.move (oB false))]
 (.seq (oQ [oM 6 0,oW 7 (.len 1 (.t 6)),oM 8 1,oW 9 (.len 1 (.t 8)),oW 10 (.arith .neq (.t 7) (.t 9))]
 (.cond (.t 10) (oQ [oW 4 (.move (oB false))]
 .ret) .skip))
 (.seq (oQ [oM 11 0,oW 12 (.len 1 (.t 11)),oW 13 (.move (oI 0))]
 (.block 0 (.loop Y7)))
 KC)))}
theorem c46:aE Tryz.prog Tryz.f46 .pure=some t46:=by kernel_rfl
def Y6:aN :=
 (oQ [oW 18 (.arith .lss (.t 17) (.t 16))]
 (.seq (.cond (.t 18) .skip (.exit 0))
 (.seq (.block 1 (oQ [oM 19 17,oW 20 (.indexAddr 4 (.t 15) (.t 17)),oL 21 4 20,oW 8 (.alloc 93 4 (.agg [.int .i64 0,.int .i64 0,.nsl,.int .i64 0])),oM 7 19,oS 4 8 21]
 (oQ [oM 22 1,oM 23 7,oW 24 (.indexAddr 4 (.t 22) (.t 23)),oL 25 4 24,oW 9 (.alloc 93 4 (.agg [.int .i64 0,.int .i64 0,.nsl,.int .i64 0])),oS 4 9 25]
 (oQ [oM 26 2,oL 27 4 8,oL 28 4 9,oW 29 (.call (.t 26) [.t 27,.t 28]),oW 30 (.un .not (.t 29))]
 (.cond (.t 30) (oQ [oW 6 (.move (oB false))]
 .ret) .skip)))))
 (.region [oW 31 (.arith .add (.t 17) (oI 1)),oM 17 31]))))
def KB:aN :=
 (oQ [oW 6 (.move (oB true))]
 .ret)
def t47:aQ:={ntmps:=32,results:=[.t 6],mode:=.pure,body :=
 (oQ [oW 6 (.move (oB false))]
 (.seq (oQ [oM 10 0,oW 11 (.len 1 (.t 10)),oM 12 1,oW 13 (.len 1 (.t 12)),oW 14 (.arith .neq (.t 11) (.t 13))]
 (.cond (.t 14) (oQ [oW 6 (.move (oB false))]
 .ret) .skip))
 (.seq (oQ [oM 15 0,oW 16 (.len 1 (.t 15)),oW 17 (.move (oI 0))]
 (.block 0 (.loop Y6)))
 KB)))}
theorem c47:aE Tryz.prog Tryz.f47 .pure=some t47:=by kernel_rfl
def t48:aQ:={ntmps:=24,results:=[.t 4],mode:=.pure,body :=
 (oQ [oW 2 (.box 93 4 (.t 0)),oW 3 (.box 93 4 (.t 1)),oW 4 (.move (oB false))]
 (oQ [oA 5 0 2,oL 6 2 5,oA 7 0 3,oL 8 2 7,oW 9 (.eqa false [1,1] (.t 6) (.t 8)),oM 10 9,gA 11 3 2 10 true,gD 12 11 10 true,gA 13 3 3 10 true,gD 14 13 10 true,gW 15 (.arith .eql (.t 12) (.t 14)) 10 true,oW 16 (.pick (.t 10) (.t 15) (oB false)),oM 17 16,gA 18 2 2 17 true,gD 19 18 17 true,gA 20 2 3 17 true,gD 21 20 17 true,gW 22 (.call (oF 49) [.t 19,.t 21]) 17 true,oW 23 (.pick (.t 17) (.t 22) (oB false)),oM 4 23]
 .ret))}
theorem c48:aE Tryz.prog Tryz.f48 .pure=some t48:=by kernel_rfl
end Go.Dm.Tc
