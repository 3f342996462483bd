/-
The table of functions, brought into the machine's form (Tc, part 1). Written by program (wip/tools/table.lean.txt).
-/
import Derived.Test.YtfnhanajiibciaaGreatTc0
import Derived.Test.YtfnhanajiibciaaGreatMm3
import Derived.Test.YtfnhanajiibciaaGreatRows
import Derived.KernelRfl
namespace Go.Dm.Tc
open Go.Proofs
def t120:DFunc:={ntmps:=10,results:=[(.cell 2 (some 7))],mode:=.pure,body :=
 (oQ [oW 1 (.box 58 7 (.t 0)),oW 2 (.alloc 84 7 (.agg [.int .i64 0,.int .i64 0,.int .i64 0,.int .i64 0,.int .i64 0,.nsl,.nsl]))]
 (oQ [oA 3 0 1,oL 4 2 3,oA 5 2 1,oL 6 2 5,oA 7 4 1,oD 8 7,oW 9 (.build [.int .i64 0,.int .i64 0,.int .i64 0,.int .i64 0,.int .i64 0,.nsl,.nsl] [(0,1,oI 3),(1,2,.t 4),(3,2,.t 6),(5,1,.t 8)]),oS 7 2 9]
 .ret))}
theorem c120:compFunc Tryz.prog Tryz.f120 .pure=some t120:=by kernel_rfl
def t123:DFunc:={ntmps:=21,results:=[.t 4,.t 5],mode:=.pure,body :=
 (oQ [oW 4 (.move (.c .nsl)),oW 5 (.move (oB false))]
 (oQ [oW 9 (.buildSlice 62 5 (.agg [.str [],.int .i64 0,.int .i64 0,.int .i64 0,.str []]) 0 []),oM 10 0,oW 11 (.append 62 5 56 (.t 9) (.t 10)),oM 12 1,oW 13 (.append 62 5 56 (.t 11) (.t 12)),oW 14 (.call (oF 160) [.t 13]),oM 8 14,oX 15 8 0,oX 16 8 1,oM 6 15,oM 7 16]
 (.seq (oQ [oM 17 7,oW 18 (.eqn 4 true (.t 17) (.c .nili))]
 (.cond (.t 18) (oQ [oW 4 (.move (.c .nsl)),oW 5 (.move (oB false))]
 .ret) .skip))
 (oQ [oM 19 6,oW 20 (.call (oF 161) [.t 19]),oM 4 20,oW 5 (.move (oB true))]
 .ret))))}
theorem c123:compFunc Tryz.prog Tryz.f123 .pure=some t123:=by kernel_rfl
def t124:DFunc:={ntmps:=12,results:=[.t 4,.t 5],mode:=.pure,body :=
 (oQ [oW 2 (.box 29 6 (.t 0)),oW 3 (.box 37 2 (.t 1)),oW 4 (.move (oI 0)),oW 5 (.move (oB false))]
 (oQ [oA 6 5 2,oD 7 6,oL 8 2 3,oW 9 (.call (oF 162) [.t 7,.t 8,oF 163]),oX 10 9 0,oX 11 9 1,oM 4 10,oM 5 11]
 .ret))}
theorem c124:compFunc Tryz.prog Tryz.f124 .pure=some t124:=by kernel_rfl
def t125:DFunc:={ntmps:=95,results:=[.t 6],mode:=.split,body :=
 (oQ [oW 6 (.move (.c .nsl))]
 (oQ [oM 10 0,oM 11 1,oW 12 (.sliceSl 3 (.t 10) (some (.t 11)) none)]
 (oQ [oM 13 2,oW 14 (.len 1 (.t 13)),oM 7 14]
 (.seq (oQ [oM 15 7,oW 16 (.arith .eql (.t 15) (oI 0))]
 (.cond (.t 16) (oQ [oM 17 0,oM 6 17]
 .ret) .skip))
 (oQ [oM 18 0,oW 19 (.len 1 (.t 18)),oM 8 19]
 (.seq (oQ [oM 20 1,oM 21 8,oW 22 (.arith .eql (.t 20) (.t 21))]
 (.cond (.t 22) (oQ [oM 23 0,oM 24 2,oW 25 (.append 60 3 40 (.t 23) (.t 24)),oM 6 25]
 .ret) .skip))
 (.seq (oQ [oM 26 8,oM 27 7,oW 28 (.arith .add (.t 26) (.t 27)),oM 29 0,oW 30 (.cap (.t 29)),oW 31 (.arith .gtr (.t 28) (.t 30))]
 (.cond (.t 31) (oQ [oM 32 0,oM 33 1,oW 34 (.sliceSl 3 (.t 32) none (some (.t 33))),oM 35 8,oM 36 7,oW 37 (.arith .add (.t 35) (.t 36)),oM 38 1,oW 39 (.arith .sub (.t 37) (.t 38)),oW 40 (.appendZ 60 3 40 (.agg [.int .i64 0,.int .i64 0,.nsl]) (.t 34) (.t 39)),oM 9 40]
 (oQ [oM 41 9,oM 42 1,oW 43 (.sliceSl 3 (.t 41) (some (.t 42)) none),oM 44 2,oW 45 (.copy 3 (.t 43) (.t 44))]
 (.seq (.draw [oRM 46 9,oRM 47 1,oRM 48 7,oR 49 (.arith .add (.t 47) (.t 48)),oR 50 (.sliceSl 3 (.t 46) (some (.t 49)) none),oRM 51 0,oRM 52 1,oR 53 (.sliceSl 3 (.t 51) (some (.t 52)) none),oW 54 (.copy 3 (.t 50) (.t 53))])
 (oQ [oM 55 9,oM 6 55]
 .ret)))) .skip))
 (oQ [oM 56 0,oM 57 8,oM 58 7,oW 59 (.arith .add (.t 57) (.t 58)),oW 60 (.sliceSl 3 (.t 56) none (some (.t 59))),oM 0 60]
 (.seq (oQ [oM 61 2,oM 62 0,oM 63 1,oM 64 7,oW 65 (.arith .add (.t 63) (.t 64)),oW 66 (.sliceSl 3 (.t 62) (some (.t 65)) none),oW 67 (.call (oF 164) [.t 61,.t 66]),oW 68 (.un .not (.t 67))]
 (.cond (.t 68) (.seq (.draw [oRM 69 0,oRM 70 1,oRM 71 7,oR 72 (.arith .add (.t 70) (.t 71)),oR 73 (.sliceSl 3 (.t 69) (some (.t 72)) none),oRM 74 0,oRM 75 1,oR 76 (.sliceSl 3 (.t 74) (some (.t 75)) none),oW 77 (.copy 3 (.t 73) (.t 76))])
 (oQ [oM 78 0,oM 79 1,oW 80 (.sliceSl 3 (.t 78) (some (.t 79)) none),oM 81 2,oW 82 (.copy 3 (.t 80) (.t 81))]
 (oQ [oM 83 0,oM 6 83]
 .ret))) .skip))
 (oQ [oM 84 0,oM 85 8,oW 86 (.sliceSl 3 (.t 84) (some (.t 85)) none),oM 87 2,oW 88 (.copy 3 (.t 86) (.t 87))]
 (oQ [oM 89 0,oM 90 1,oW 91 (.sliceSl 3 (.t 89) (some (.t 90)) none),oM 92 7,oW 93 (.call (oF 165) [.t 91,.t 92])]
 (oQ [oM 94 0,oM 6 94]
 .ret))))))))))))}
theorem c125:compFunc Tryz.prog Tryz.f125 .split=some t125:=by kernel_rfl
def t127:DFunc:={ntmps:=32,results:=[(.cell 4 (some 6)),.t 5],mode:=.frz,body :=
 (oQ [oW 2 (.box 29 6 (.t 0)),oW 3 (.box 58 7 (.t 1)),oW 4 (.alloc 29 6 (.agg [.int .i64 0,.nsl,.nsl,.nsl,.nsl,.nsl])),oW 5 (.move (.c .nsl))]
 (oQ [oL 10 6 2,oA 11 0 3,oL 12 2 11,oW 13 (.call (oF 23) [.t 10,.t 12]),oM 9 13,oX 14 9 0,oX 15 9 1,oW 6 (.alloc 42 4 (.agg [.int .i64 0,.int .i64 0,.nsl,.int .i64 0])),oS 4 6 14,oM 7 15]
 (oQ [oL 17 6 2,oL 18 7 3,oW 19 (.call (oF 31) [.t 17,.t 18]),oM 16 19,oX 20 16 0,oX 21 16 1,oS 6 2 20,oM 8 21]
 (.seq (oQ [oM 22 8,oW 23 (.un .not (.t 22))]
 (.cond (.t 23) (oQ [oL 24 6 2,oS 6 4 24,oW 5 (.move (.c .nsl))]
 .ret) .skip))
 (.seq (.draw [oRL 25 6 2,oRA 26 3 6,oRD 27 26,⟨(some 28),.load (some 7) (.t 3),none,.read,0,true⟩,nK 29 (.call (oF 120) [.t 28]) .create 0,⟨none,.store 6 (.t 4) (.t 25),none,.create,0,false⟩,nK 30 (.build [.int .i64 0,.int .i64 0,.int .i64 0,.int .i64 0,.int .i64 0,.int .i64 0,.nsl,.nsl] [(0,1,.t 27),(1,7,.t 29)]) .read 1,nK 31 (.buildSlice 86 8 (.agg [.int .i64 0,.int .i64 0,.int .i64 0,.int .i64 0,.int .i64 0,.int .i64 0,.nsl,.nsl]) 1 [(0,.t 30)]) .create 0,nK 5 (.move (.t 31)) .read 3])
 .ret)))))}
theorem c127:compFunc Tryz.prog Tryz.f127 .frz=some t127:=by kernel_rfl
def t128:DFunc:={ntmps:=33,results:=[.t 6],mode:=.full,body :=
 (oQ [oW 6 (.move (.c .nsl))]
 (oQ [oM 8 0,oM 9 1,oM 10 2,oM 11 0,oW 12 (.len 1 (.t 11)),oW 13 (.slice3 (.t 8) (.t 9) (.t 10) (.t 12))]
 (.seq (oQ [oM 14 1,oM 15 2,oW 16 (.arith .eql (.t 14) (.t 15))]
 (.cond (.t 16) (oQ [oM 17 0,oM 6 17]
 .ret) .skip))
 (oQ [oM 18 0,oW 19 (.len 1 (.t 18)),oM 7 19]
 (.seq (.draw [oRM 20 0,oRM 21 1,oR 22 (.sliceSl 3 (.t 20) none (some (.t 21))),oRM 23 0,oRM 24 2,oR 25 (.sliceSl 3 (.t 23) (some (.t 24)) none),oW 26 (.append 60 3 40 (.t 22) (.t 25)),nK 0 (.move (.t 26)) .read 1])
 (oQ [oM 27 0,oM 28 0,oW 29 (.len 1 (.t 28)),oM 30 7,oW 31 (.sliceSl 3 (.t 27) (some (.t 29)) (some (.t 30))),oZ (.clear 3 (.agg [.int .i64 0,.int .i64 0,.nsl]) (.t 31))]
 (oQ [oM 32 0,oM 6 32]
 .ret)))))))}
theorem c128:compFunc Tryz.prog Tryz.f128 .full=some t128:=by kernel_rfl
def t129l0:DCode :=
 (oQ [oW 38 (.arith .lss (.t 37) (.t 36))]
 (.seq (.cond (.t 38) .skip (.exit 0))
 (.seq (.block 1 (oQ [oW 39 (.indexAddr 7 (.t 35) (.t 37)),oL 40 7 39,oW 16 (.alloc 58 7 (.agg [.int .i64 0,.int .i64 0,.int .i64 0,.int .i64 0,.nsl,.int .i64 0,.bool false])),oS 7 16 40]
 (.draw [oRA 42 3 10,oRD 43 42,oRL 44 7 16,nK 45 (.call (oF 120) [.t 44]) .create 0,oRM 41 14,nK 46 (.build [.int .i64 0,.int .i64 0,.int .i64 0,.int .i64 0,.int .i64 0,.int .i64 0,.nsl,.nsl] [(0,1,.t 43),(1,7,.t 45)]) .read 1,nK 47 (.buildSlice 86 8 (.agg [.int .i64 0,.int .i64 0,.int .i64 0,.int .i64 0,.int .i64 0,.int .i64 0,.nsl,.nsl]) 1 [(0,.t 46)]) .create 0,nK 48 (.append 86 8 96 (.t 41) (.t 47)) .write 2,nK 14 (.move (.t 48)) .read 3])))
 (.region [oW 49 (.arith .add (.t 37) (oI 1)),oM 37 49]))))
def t129k0:DCode :=
 (.seq (.draw [oRL 50 6 4,oRA 52 3 10,oRD 53 52,oRL 54 2 5,oRL 55 2 6,oRM 51 14,oR 56 (.build [.int .i64 0,.int .i64 0,.int .i64 0,.int .i64 0,.int .i64 0,.nsl,.nsl] [(0,1,oI 4),(1,2,.t 54),(3,2,.t 55)]),oR 57 (.build [.int .i64 0,.int .i64 0,.int .i64 0,.int .i64 0,.int .i64 0,.int .i64 0,.nsl,.nsl] [(0,1,.t 53),(1,7,.t 56)]),nK 58 (.buildSlice 86 8 (.agg [.int .i64 0,.int .i64 0,.int .i64 0,.int .i64 0,.int .i64 0,.int .i64 0,.nsl,.nsl]) 1 [(0,.t 57)]) .create 0,nK 59 (.append 86 8 96 (.t 51) (.t 58)) .create 0,⟨none,.store 6 (.t 8) (.t 50),none,.write,2,false⟩,nK 9 (.move (.t 59)) .read 3])
 .ret)
def t129:DFunc:={ntmps:=60,results:=[(.cell 8 (some 6)),.t 9],mode:=.frz,body :=
 (oQ [oW 4 (.box 29 6 (.t 0)),oW 5 (.box 37 2 (.t 1)),oW 6 (.box 37 2 (.t 2)),oW 8 (.alloc 29 6 (.agg [.int .i64 0,.nsl,.nsl,.nsl,.nsl,.nsl])),oW 9 (.move (.c .nsl))]
 (oQ [oL 18 6 4,oL 19 2 5,oW 20 (.call (oF 23) [.t 18,.t 19]),oM 17 20,oX 21 17 0,oX 22 17 1,oW 10 (.alloc 42 4 (.agg [.int .i64 0,.int .i64 0,.nsl,.int .i64 0])),oS 4 10 21,oM 11 22]
 (oQ [oL 24 6 4,oL 25 2 5,oL 26 2 6,oM 27 3,oW 28 (.call (oF 34) [.t 24,.t 25,.t 26,.t 27]),oM 23 28,oX 29 23 0,oX 30 23 1,oX 31 23 2,oS 6 4 29,oM 12 30,oM 13 31]
 (.seq (oQ [oM 32 13,oW 33 (.un .not (.t 32))]
 (.cond (.t 33) (oQ [oL 34 6 4,oS 6 8 34,oW 9 (.move (.c .nsl))]
 .ret) .skip))
 (oQ [oW 14 (.move (.c .nsl))]
 (.seq (oQ [oM 35 12,oW 36 (.len 1 (.t 35)),oW 37 (.move (oI 0))]
 (.block 0 (.loop t129l0)))
 t129k0))))))}
theorem c129:compFunc Tryz.prog Tryz.f129 .frz=some t129:=by kernel_rfl
def t130:DFunc:={ntmps:=45,results:=[.t 4],mode:=.pure,body :=
 (oQ [oW 2 (.box 62 5 (.t 0)),oW 3 (.box 62 5 (.t 1)),oW 4 (.move (oB false))]
 (.seq (oQ [oA 5 1 3,oD 6 5]
 (.block 0 (oQ [oW 8 (.arith .eql (.t 6) (oI 1)),oM 7 8]
 (.cond (.t 7) (oQ [oA 9 1 2,oD 10 9,oW 11 (.arith .eql (.t 10) (oI 1)),oM 12 11,gA 13 2 2 12 true,gD 14 13 12 true,gA 15 2 3 12 true,gD 16 15 12 true,gW 17 (.arith .leq (.t 14) (.t 16)) 12 true,oW 18 (.pick (.t 12) (.t 17) (oB false)),oM 19 18,gA 20 3 3 19 true,gD 21 20 19 true,gA 22 3 2 19 true,gD 23 22 19 true,gW 24 (.arith .leq (.t 21) (.t 23)) 19 true,oW 25 (.pick (.t 19) (.t 24) (oB false)),oM 4 25]
 .ret) (oQ [oW 27 (.arith .eql (.t 6) (oI 3)),oM 26 27]
 (.cond (.t 26) (oQ [oA 28 1 2,oD 29 28,oW 30 (.arith .eql (.t 29) (oI 3)),oM 31 30,gA 32 4 3 31 true,gD 33 32 31 true,gA 34 4 2 31 true,gD 35 34 31 true,gW 36 (.call (oF 166) [.t 33,.t 35]) 31 true,oW 37 (.pick (.t 31) (.t 36) (oB false)),oM 4 37]
 .ret) (oQ [oW 39 (.arith .eql (.t 6) (oI 2)),oM 38 39]
 (.cond (.t 38) (.seq (.draw [oRL 40 5 2,oRA 41 4 3,oRD 42 41,nK 43 (.call (oF 168) [.t 42]) .create 0,nK 44 (.call (oF 167) [.t 40,.t 43]) .write 1,nK 4 (.move (.t 44)) .read 2])
 .ret) .skip))))))))
 (oQ [oW 4 (.move (oB false))]
 .ret)))}
theorem c130:compFunc Tryz.prog Tryz.f130 .pure=some t130:=by kernel_rfl
def t134l0:DCode :=
 (.block 1 (oQ [oM 19 2,oM 20 1,oW 21 (.arith .sub (.t 19) (.t 20)),oM 10 21]
 (.seq (oQ [oM 22 10,oW 23 (.arith .leq (.t 22) (oI 12))]
 (.cond (.t 23) (oQ [oM 24 0,oM 25 1,oM 26 2,oW 27 (.call (oF 170) [.t 24,.t 25,.t 26])]
 .ret) .skip))
 (.seq (oQ [oM 28 3,oW 29 (.arith .eql (.t 28) (oI 0))]
 (.cond (.t 29) (oQ [oM 30 0,oM 31 1,oM 32 2,oW 33 (.call (oF 171) [.t 30,.t 31,.t 32])]
 .ret) .skip))
 (.seq (oQ [oM 34 8,oW 35 (.un .not (.t 34))]
 (.cond (.t 35) (oQ [oM 36 0,oM 37 1,oM 38 2,oW 39 (.call (oF 172) [.t 36,.t 37,.t 38])]
 (.region [oM 40 3,oW 41 (.arith .sub (.t 40) (oI 1)),oM 3 41])) .skip))
 (oQ [oM 43 0,oM 44 1,oM 45 2,oW 46 (.call (oF 173) [.t 43,.t 44,.t 45]),oM 42 46,oX 47 42 0,oX 48 42 1,oM 11 47,oM 12 48]
 (.seq (oQ [oM 49 12,oW 50 (.arith .eql (.t 49) (oI 2))]
 (.cond (.t 50) (oQ [oM 51 0,oM 52 1,oM 53 2,oW 54 (.call (oF 174) [.t 51,.t 52,.t 53])]
 (oQ [oM 55 2,oW 56 (.arith .sub (.t 55) (oI 1)),oM 57 11,oM 58 1,oW 59 (.arith .sub (.t 57) (.t 58)),oW 60 (.arith .sub (.t 56) (.t 59)),oM 11 60]
 (.region [oW 12 (.move (oI 1))]))) .skip))
 (.seq (oQ [oM 61 8,oM 62 61,gM 63 9 62 true,oW 64 (.pick (.t 62) (.t 63) (oB false)),oM 65 64,gM 66 12 65 true,gW 67 (.arith .eql (.t 66) (oI 1)) 65 true,oW 68 (.pick (.t 65) (.t 67) (oB false))]
 (.cond (.t 68) (oQ [oM 69 0,oM 70 1,oM 71 2,oW 72 (.call (oF 175) [.t 69,.t 70,.t 71])]
 (.cond (.t 72) .ret .skip)) .skip))
 (.seq (.seq (.draw [oRM 73 1,oR 74 (.arith .gtr (.t 73) (oI 0)),oRM 75 74,rM 76 0 75 true,rM 77 1 75 true,rW 78 (.arith .sub (.t 77) (oI 1)) 75 true,rW 79 (.indexAddr 1 (.t 76) (.t 78)) 75 true,rD 80 79 75 true,rM 81 0 75 true,rM 82 11 75 true,rW 83 (.indexAddr 1 (.t 81) (.t 82)) 75 true,rD 84 83 75 true,gW 85 (.call (oF 176) [.t 80,.t 84]) 75 true,⟨(some 86),.un .not (.t 85),(some (75,true)),.read,1,false⟩,nK 87 (.pick (.t 75) (.t 86) (oB false)) .read 1])
 (.cond (.t 87) (oQ [oM 88 0,oM 89 1,oM 90 2,oM 91 11,oW 92 (.call (oF 177) [.t 88,.t 89,.t 90,.t 91]),oM 13 92]
 (oQ [oM 93 13,oM 1 93]
 (.exit 1))) .skip))
 (oQ [oM 95 0,oM 96 1,oM 97 2,oM 98 11,oW 99 (.call (oF 178) [.t 95,.t 96,.t 97,.t 98]),oM 94 99,oX 100 94 0,oX 101 94 1,oM 14 100,oM 15 101]
 (oQ [oM 102 15,oM 9 102]
 (oQ [oM 103 14,oM 104 1,oW 105 (.arith .sub (.t 103) (.t 104)),oM 106 2,oM 107 14,oW 108 (.arith .sub (.t 106) (.t 107)),oM 16 105,oM 17 108]
 (oQ [oM 109 10,oW 110 (.arith .quo (.t 109) (oI 8)),oM 18 110]
 (oQ [oM 111 16,oM 112 17,oW 113 (.arith .lss (.t 111) (.t 112))]
 (.cond (.t 113) (oQ [oM 114 16,oM 115 18,oW 116 (.arith .geq (.t 114) (.t 115)),oM 8 116]
 (oQ [oM 117 0,oM 118 1,oM 119 14,oM 120 3,oW 121 (.call (oF 134) [.t 117,.t 118,.t 119,.t 120])]
 (.region [oM 122 14,oW 123 (.arith .add (.t 122) (oI 1)),oM 1 123]))) (oQ [oM 124 17,oM 125 18,oW 126 (.arith .geq (.t 124) (.t 125)),oM 8 126]
 (oQ [oM 127 0,oM 128 14,oW 129 (.arith .add (.t 128) (oI 1)),oM 130 2,oM 131 3,oW 132 (.call (oF 134) [.t 127,.t 129,.t 130,.t 131])]
 (.region [oM 133 14,oM 2 133]))))))))))))))))))
def t134:DFunc:={ntmps:=134,results:=[],mode:=.full,body :=
 (oQ [oW 8 (.move (oB true))]
 (oQ [oW 9 (.move (oB true))]
 (.block 0 (.loop t134l0))))}
theorem c134:compFunc Tryz.prog Tryz.f134 .full=some t134:=by kernel_rfl
def t135:DFunc:={ntmps:=8,results:=[.t 2],mode:=.pure,body :=
 (oQ [oW 2 (.move (oI 0))]
 (.seq (.cond (oB false) (oQ [oM 3 0,oW 4 (.conv .u32 (.t 3)),oW 5 (.call (oF 179) [.t 4]),oM 2 5]
 .ret) .skip)
 (oQ [oM 6 0,oW 7 (.call (oF 180) [.t 6]),oM 2 7]
 .ret)))}
theorem c135:compFunc Tryz.prog Tryz.f135 .pure=some t135:=by kernel_rfl
def t136:DFunc:={ntmps:=2,results:=[.t 0],mode:=.pure,body :=
 (oQ [oW 0 (.move (.c .nsl))]
 (oQ [oW 1 (.buildSlice 9 1 (.str []) 7 [(0,(.c (.str []))),(1,(.c (.str [120]))),(2,(.c (.str [120,121]))),(3,(.c (.str [120,121,122]))),(4,(.c (.str [120,122]))),(5,(.c (.str [121]))),(6,(.c (.str [121,121])))]),oM 0 1]
 .ret))}
theorem c136:compFunc Tryz.prog Tryz.f136 .pure=some t136:=by kernel_rfl
def t139l0:DCode :=
 (.seq (oQ [oM 15 9,oM 16 10,oW 17 (.arith .lss (.t 15) (.t 16))]
 (.cond (.t 17) .skip (.exit 0)))
 (.block 1 (oQ [oM 18 9,oM 19 10,oW 20 (.arith .add (.t 18) (.t 19)),oW 21 (.conv .u64 (.t 20)),oW 22 (.arith .shr (.t 21) (.c (.int .u64 1))),oW 23 (.conv .i64 (.t 22)),oM 11 23]
 (.seq (.draw [oRM 25 0,oRM 26 11,oR 27 (.indexAddr 2 (.t 25) (.t 26)),oRL 28 2 27,oRL 29 2 4,oRM 24 2,oW 30 (.call (.t 24) [.t 28,.t 29]),nK 31 (.arith .lss (.t 30) (oI 0)) .read 1])
 (.cond (.t 31) (.region [oM 32 11,oW 33 (.arith .add (.t 32) (oI 1)),oM 9 33]) (.region [oM 34 11,oM 10 34]))))))
def t139k0:DCode :=
 (.seq (.draw [oRM 36 9,oRM 37 8,oR 38 (.arith .lss (.t 36) (.t 37)),oRM 39 38,rM 41 0 39 true,rM 42 9 39 true,rW 43 (.indexAddr 2 (.t 41) (.t 42)) 39 true,rL 44 2 43 39 true,rL 45 2 4 39 true,rM 40 2 39 true,gW 46 (.call (.t 40) [.t 44,.t 45]) 39 true,oRM 35 9,⟨(some 47),.arith .eql (.t 46) (oI 0),(some (39,true)),.read,1,false⟩,nK 48 (.pick (.t 39) (.t 47) (oB false)) .read 1,nK 6 (.move (.t 35)) .read 1,nK 7 (.move (.t 48)) .read 1])
 .ret)
def t139:DFunc:={ntmps:=49,results:=[.t 6,.t 7],mode:=.pure,body :=
 (oQ [oW 4 (.box 37 2 (.t 1)),oW 6 (.move (oI 0)),oW 7 (.move (oB false))]
 (oQ [oM 12 0,oW 13 (.len 1 (.t 12)),oM 8 13]
 (oQ [oM 14 8,oW 9 (.move (oI 0)),oM 10 14]
 (.seq (.block 0 (.loop t139l0))
 t139k0))))}
theorem c139:compFunc Tryz.prog Tryz.f139 .pure=some t139:=by kernel_rfl
def t140l0:DCode :=
 (.seq (oQ [oM 15 9,oM 16 10,oW 17 (.arith .lss (.t 15) (.t 16))]
 (.cond (.t 17) .skip (.exit 0)))
 (.block 1 (oQ [oM 18 9,oM 19 10,oW 20 (.arith .add (.t 18) (.t 19)),oW 21 (.conv .u64 (.t 20)),oW 22 (.arith .shr (.t 21) (.c (.int .u64 1))),oW 23 (.conv .i64 (.t 22)),oM 11 23]
 (.seq (.draw [oRM 25 0,oRM 26 11,oR 27 (.indexAddr 4 (.t 25) (.t 26)),oRL 28 4 27,oRL 29 2 4,oRM 24 2,oW 30 (.call (.t 24) [.t 28,.t 29]),nK 31 (.arith .lss (.t 30) (oI 0)) .read 1])
 (.cond (.t 31) (.region [oM 32 11,oW 33 (.arith .add (.t 32) (oI 1)),oM 9 33]) (.region [oM 34 11,oM 10 34]))))))
def t140k0:DCode :=
 (.seq (.draw [oRM 36 9,oRM 37 8,oR 38 (.arith .lss (.t 36) (.t 37)),oRM 39 38,rM 41 0 39 true,rM 42 9 39 true,rW 43 (.indexAddr 4 (.t 41) (.t 42)) 39 true,rL 44 4 43 39 true,rL 45 2 4 39 true,rM 40 2 39 true,gW 46 (.call (.t 40) [.t 44,.t 45]) 39 true,oRM 35 9,⟨(some 47),.arith .eql (.t 46) (oI 0),(some (39,true)),.read,1,false⟩,nK 48 (.pick (.t 39) (.t 47) (oB false)) .read 1,nK 6 (.move (.t 35)) .read 1,nK 7 (.move (.t 48)) .read 1])
 .ret)
def t140:DFunc:={ntmps:=49,results:=[.t 6,.t 7],mode:=.pure,body :=
 (oQ [oW 4 (.box 37 2 (.t 1)),oW 6 (.move (oI 0)),oW 7 (.move (oB false))]
 (oQ [oM 12 0,oW 13 (.len 1 (.t 12)),oM 8 13]
 (oQ [oM 14 8,oW 9 (.move (oI 0)),oM 10 14]
 (.seq (.block 0 (.loop t140l0))
 t140k0))))}
theorem c140:compFunc Tryz.prog Tryz.f140 .pure=some t140:=by kernel_rfl
def t141:DFunc:={ntmps:=9,results:=[.t 4],mode:=.pure,body :=
 (oQ [oW 2 (.box 42 4 (.t 0)),oW 3 (.box 37 2 (.t 1)),oW 4 (.move (oI 0))]
 (oQ [oA 5 0 2,oL 6 2 5,oL 7 2 3,oW 8 (.call (oF 101) [.t 6,.t 7]),oM 4 8]
 .ret))}
theorem c141:compFunc Tryz.prog Tryz.f141 .pure=some t141:=by kernel_rfl
def t143:DFunc:={ntmps:=10,results:=[],mode:=.full,body :=
 (.region [oM 4 0,oM 5 0,oW 6 (.len 1 (.t 5)),oM 7 1,oW 8 (.arith .sub (.t 6) (.t 7)),oW 9 (.call (oF 181) [.t 4,.t 8])])}
theorem c143:compFunc Tryz.prog Tryz.f143 .full=some t143:=by kernel_rfl
def t145:DFunc:={ntmps:=10,results:=[],mode:=.full,body :=
 (.region [oM 4 0,oM 5 0,oW 6 (.len 1 (.t 5)),oM 7 1,oW 8 (.arith .sub (.t 6) (.t 7)),oW 9 (.call (oF 182) [.t 4,.t 8])])}
theorem c145:compFunc Tryz.prog Tryz.f145 .full=some t145:=by kernel_rfl
def t146l0:DCode :=
 (oQ [oW 9 (.arith .lss (.t 8) (.t 7))]
 (.seq (.cond (.t 9) .skip (.exit 0))
 (.seq (.block 1 (oQ [oM 10 8,oM 5 10]
 (oQ [oM 11 1,oM 12 0,oM 13 5,oW 14 (.indexAddr 7 (.t 12) (.t 13)),oL 15 7 14,oW 16 (.call (.t 11) [.t 15])]
 (.cond (.t 16) (oQ [oM 17 5,oM 4 17]
 .ret) .skip))))
 (.region [oW 18 (.arith .add (.t 8) (oI 1)),oM 8 18]))))
def t146k0:DCode :=
 (oQ [oW 4 (.move (oI (-1)))]
 .ret)
def t146:DFunc:={ntmps:=19,results:=[.t 4],mode:=.pure,body :=
 (oQ [oW 4 (.move (oI 0))]
 (.seq (oQ [oM 6 0,oW 7 (.len 1 (.t 6)),oW 8 (.move (oI 0))]
 (.block 0 (.loop t146l0)))
 t146k0))}
theorem c146:compFunc Tryz.prog Tryz.f146 .pure=some t146:=by kernel_rfl
def t148:DFunc:={ntmps:=20,results:=[.t 4],mode:=.pure,body :=
 (oQ [oW 4 (.move (oI 0))]
 (oQ [oM 7 0,oW 8 (.call (oF 183) [.t 7]),oM 5 8]
 (oQ [oM 9 1,oW 10 (.call (oF 183) [.t 9]),oM 6 10]
 (.seq (oQ [oM 11 5]
 (.cond (.t 11) (.seq (oQ [oM 12 6]
 (.cond (.t 12) (oQ [oW 4 (.move (oI 0))]
 .ret) .skip))
 (oQ [oW 4 (.move (oI (-1)))]
 .ret)) .skip))
 (.seq (oQ [oM 13 6]
 (.cond (.t 13) (oQ [oW 4 (.move (oI 1))]
 .ret) .skip))
 (.seq (oQ [oM 14 0,oM 15 1,oW 16 (.arith .lss (.t 14) (.t 15))]
 (.cond (.t 16) (oQ [oW 4 (.move (oI (-1)))]
 .ret) .skip))
 (.seq (oQ [oM 17 0,oM 18 1,oW 19 (.arith .gtr (.t 17) (.t 18))]
 (.cond (.t 19) (oQ [oW 4 (.move (oI 1))]
 .ret) .skip))
 (oQ [oW 4 (.move (oI 0))]
 .ret))))))))}
theorem c148:compFunc Tryz.prog Tryz.f148 .pure=some t148:=by kernel_rfl
def t151:DFunc:={ntmps:=43,results:=[.t 2],mode:=.pure,body :=
 (oQ [oW 1 (.box 62 5 (.t 0)),oW 2 (.move (oB false))]
 (.seq (oQ [oA 3 0 1,oD 4 3,oW 5 (.call (oF 185) [.t 4]),oW 6 (.un .not (.t 5))]
 (.cond (.t 6) (oQ [oW 2 (.move (oB false))]
 .ret) .skip))
 (.seq (oQ [oA 7 1 1,oD 8 7]
 (.block 0 (.seq (.block 3 (.seq (.block 2 (.seq (.block 1 (.seq (.seq (oQ [oW 10 (.arith .eql (.t 8) (oI 1)),oM 9 10]
 (.cond (.t 9) (.exit 1) .skip))
 (.seq (oQ [oW 12 (.arith .eql (.t 8) (oI 3)),oM 11 12]
 (.cond (.t 11) (.exit 2) .skip))
 (oQ [oW 14 (.arith .eql (.t 8) (oI 2)),oM 13 14]
 (.cond (.t 13) (.exit 3) .skip))))
 (.exit 0)))
 (.seq (oQ [oA 15 2 1,oD 16 15,oA 17 3 1,oD 18 17,oW 19 (.arith .leq (.t 16) (.t 18)),oM 20 19,gA 21 4 1 20 true,gD 22 21 20 true,gW 23 (.arith .eql (.t 22) (.c (.str []))) 20 true,oW 24 (.pick (.t 20) (.t 23) (oB false)),oM 2 24]
 .ret)
 (.exit 0))))
 (oQ [oA 25 4 1,oD 26 25,oW 27 (.len 0 (.t 26)),oW 28 (.arith .eql (.t 27) (oI 12))]
 (.cond (.t 28) (oQ [oW 2 (.move (oB false))]
 .ret) .skip))))
 (.seq (oQ [oA 29 2 1,oD 30 29,oW 31 (.arith .eql (.t 30) (oI 0)),oM 32 31,gA 33 3 1 32 true,gD 34 33 32 true,gW 35 (.arith .eql (.t 34) (oI 0)) 32 true,oW 36 (.pick (.t 32) (.t 35) (oB false)),oM 37 36,gA 38 4 1 37 true,gD 39 38 37 true,gW 40 (.len 0 (.t 39)) 37 true,gW 41 (.arith .leq (.t 40) (oI 12)) 37 true,oW 42 (.pick (.t 37) (.t 41) (oB false)),oM 2 42]
 .ret)
 (.exit 0)))))
 (oQ [oW 2 (.move (oB false))]
 .ret))))}
theorem c151:compFunc Tryz.prog Tryz.f151 .pure=some t151:=by kernel_rfl
def t154l0:DCode :=
 (.seq (oQ [oM 15 9,oM 16 10,oW 17 (.arith .lss (.t 15) (.t 16))]
 (.cond (.t 17) .skip (.exit 0)))
 (.block 1 (oQ [oM 18 9,oM 19 10,oW 20 (.arith .add (.t 18) (.t 19)),oW 21 (.conv .u64 (.t 20)),oW 22 (.arith .shr (.t 21) (.c (.int .u64 1))),oW 23 (.conv .i64 (.t 22)),oM 11 23]
 (.seq (.draw [oRM 25 0,oRM 26 11,oR 27 (.indexAddr 7 (.t 25) (.t 26)),oRL 28 7 27,oRL 29 2 4,oRM 24 2,oW 30 (.call (.t 24) [.t 28,.t 29]),nK 31 (.arith .lss (.t 30) (oI 0)) .read 1])
 (.cond (.t 31) (.region [oM 32 11,oW 33 (.arith .add (.t 32) (oI 1)),oM 9 33]) (.region [oM 34 11,oM 10 34]))))))
def t154k0:DCode :=
 (.seq (.draw [oRM 36 9,oRM 37 8,oR 38 (.arith .lss (.t 36) (.t 37)),oRM 39 38,rM 41 0 39 true,rM 42 9 39 true,rW 43 (.indexAddr 7 (.t 41) (.t 42)) 39 true,rL 44 7 43 39 true,rL 45 2 4 39 true,rM 40 2 39 true,gW 46 (.call (.t 40) [.t 44,.t 45]) 39 true,oRM 35 9,⟨(some 47),.arith .eql (.t 46) (oI 0),(some (39,true)),.read,1,false⟩,nK 48 (.pick (.t 39) (.t 47) (oB false)) .read 1,nK 6 (.move (.t 35)) .read 1,nK 7 (.move (.t 48)) .read 1])
 .ret)
def t154:DFunc:={ntmps:=49,results:=[.t 6,.t 7],mode:=.pure,body :=
 (oQ [oW 4 (.box 37 2 (.t 1)),oW 6 (.move (oI 0)),oW 7 (.move (oB false))]
 (oQ [oM 12 0,oW 13 (.len 1 (.t 12)),oM 8 13]
 (oQ [oM 14 8,oW 9 (.move (oI 0)),oM 10 14]
 (.seq (.block 0 (.loop t154l0))
 t154k0))))}
theorem c154:compFunc Tryz.prog Tryz.f154 .pure=some t154:=by kernel_rfl
def t155:DFunc:={ntmps:=34,results:=[.t 5],mode:=.pure,body :=
 (oQ [oW 3 (.box 58 7 (.t 0)),oW 4 (.box 37 2 (.t 1)),oW 5 (.move (oI 0))]
 (.seq (.block 0 (oQ [oA 7 0 3,oL 8 2 7,oL 9 2 2,oW 10 (.eqa false [1,1] (.t 8) (.t 9)),oM 11 10,gA 12 2 3 11 true,gL 13 2 12 11 true,gL 14 2 4 11 true,gW 15 (.eqa false [1,1] (.t 13) (.t 14)) 11 true,oW 16 (.pick (.t 11) (.t 15) (oB false)),oM 6 16]
 (.cond (.t 6) (oQ [oW 5 (.move (oI 0))]
 .ret) (oQ [oA 18 0 3,oL 19 2 18,oL 20 2 2,oW 21 (.call (oF 56) [.t 19,.t 20]),oM 22 21,gA 23 0 3 22 false,gL 24 2 23 22 false,gL 25 2 2 22 false,gW 26 (.eqa false [1,1] (.t 24) (.t 25)) 22 false,gM 27 26 22 false,gA 28 2 3 27 true,gL 29 2 28 27 true,gL 30 2 4 27 true,gW 31 (.call (oF 56) [.t 29,.t 30]) 27 true,gW 32 (.pick (.t 27) (.t 31) (oB false)) 22 false,oW 33 (.pick (.t 22) (oB true) (.t 32)),oM 17 33]
 (.cond (.t 17) (oQ [oW 5 (.move (oI (-1)))]
 .ret) .skip)))))
 (oQ [oW 5 (.move (oI 1))]
 .ret)))}
theorem c155:compFunc Tryz.prog Tryz.f155 .pure=some t155:=by kernel_rfl
def t157:DFunc:={ntmps:=10,results:=[],mode:=.full,body :=
 (.region [oM 4 0,oM 5 0,oW 6 (.len 1 (.t 5)),oM 7 1,oW 8 (.arith .sub (.t 6) (.t 7)),oW 9 (.call (oF 187) [.t 4,.t 8])])}
theorem c157:compFunc Tryz.prog Tryz.f157 .full=some t157:=by kernel_rfl
def t160l0:DCode :=
 (oQ [oW 16 (.arith .lss (.t 15) (.t 14))]
 (.seq (.cond (.t 16) .skip (.exit 0))
 (.seq (.block 1 (oQ [oM 17 15,oW 18 (.indexAddr 5 (.t 13) (.t 15)),oL 19 5 18,oW 5 (.alloc 62 5 (.agg [.str [],.int .i64 0,.int .i64 0,.int .i64 0,.str []])),oM 4 17,oS 5 5 19]
 (oQ [oL 20 5 5,oW 21 (.call (oF 151) [.t 20]),oW 22 (.un .not (.t 21))]
 (.cond (.t 22) (oQ [oM 23 4,oW 24 (.makeIface 225 (oI 1)),oW 25 (.call (oF 190) [(.c (.str [112,114,101,100])),.t 23,.t 24]),oW 2 (.move (.c .nsl)),oM 3 25]
 .ret) .skip))))
 (.region [oW 26 (.arith .add (.t 15) (oI 1)),oM 15 26]))))
def t160l1:DCode :=
 (oQ [oW 30 (.arith .lss (.t 29) (.t 28))]
 (.seq (.cond (.t 30) .skip (.exit 2))
 (.seq (.block 3 (oQ [oM 31 29,oW 32 (.indexAddr 5 (.t 27) (.t 29)),oL 33 5 32,oW 8 (.alloc 62 5 (.agg [.str [],.int .i64 0,.int .i64 0,.int .i64 0,.str []])),oM 7 31,oS 5 8 33]
 (oQ [oM 35 6,oA 36 0 8,oD 37 36,oW 38 (.call (oF 191) [.t 35,.t 37,oF 192]),oM 34 38,oX 39 34 0,oX 40 34 1,oM 9 39,oM 10 40]
 (.block 4 (oQ [oM 47 10,oM 46 47]
 (.cond (.t 46) (.seq (.draw [oRM 49 6,oRM 50 9,oR 51 (.indexAddr 5 (.t 49) (.t 50)),oRL 52 5 51,oRL 53 5 8,oW 54 (.call (oF 194) [.t 52,.t 53]),nK 48 (.move (.t 54)) .read 1,nK 55 (.extract (.t 48) 0) .read 1,nK 11 (.alloc 62 5 (.agg [.str [],.int .i64 0,.int .i64 0,.int .i64 0,.str []])) .create 0,⟨none,.store 5 (.t 11) (.t 55),none,.write,2,false⟩,nK 56 (.extract (.t 48) 1) .read 1,nK 12 (.move (.t 56)) .read 3])
 (.seq (oQ [oM 57 12,oW 58 (.un .not (.t 57))]
 (.cond (.t 58) (oQ [oM 59 7,oW 60 (.makeIface 225 (oI 5)),oW 61 (.call (oF 190) [(.c (.str [112,114,101,100])),.t 59,.t 60]),oW 2 (.move (.c .nsl)),oM 3 61]
 .ret) .skip))
 (.region [oM 62 6,oM 63 9,oL 64 5 11,oW 65 (.indexAddr 5 (.t 62) (.t 63)),oS 5 65 64]))) (oQ [oM 67 6,oW 68 (.len 1 (.t 67)),oW 69 (.arith .eql (.t 68) (oI 5)),oM 66 69]
 (.cond (.t 66) (oQ [oM 70 7,oW 71 (.makeIface 225 (oI 7)),oW 72 (.call (oF 190) [(.c (.str [112,114,101,100])),.t 70,.t 71]),oW 2 (.move (.c .nsl)),oM 3 72]
 .ret) (.region [oM 41 6,oM 42 9,oL 43 5 8,oW 44 (.buildSlice 62 5 (.agg [.str [],.int .i64 0,.int .i64 0,.int .i64 0,.str []]) 1 [(0,.t 43)]),oW 45 (.call (oF 195) [.t 41,.t 42,.t 44]),oM 6 45])))))))))
 (.region [oW 73 (.arith .add (.t 29) (oI 1)),oM 29 73]))))
def t160k0:DCode :=
 (oQ [oM 74 6,oM 2 74,oW 3 (.move (.c .nili))]
 .ret)
def t160k1:DCode :=
 (oQ [oW 6 (.move (.c .nsl))]
 (.seq (oQ [oM 27 0,oW 28 (.len 1 (.t 27)),oW 29 (.move (oI 0))]
 (.block 2 (.loop t160l1)))
 t160k0))
def t160:DFunc:={ntmps:=75,results:=[.t 2,.t 3],mode:=.pure,body :=
 (oQ [oW 2 (.move (.c .nsl)),oW 3 (.move (.c .nili))]
 (.seq (oQ [oM 13 0,oW 14 (.len 1 (.t 13)),oW 15 (.move (oI 0))]
 (.block 0 (.loop t160l0)))
 t160k1))}
theorem c160:compFunc Tryz.prog Tryz.f160 .pure=some t160:=by kernel_rfl
def t161l0:DCode :=
 (oQ [oW 10 (.arith .lss (.t 9) (.t 8))]
 (.seq (.cond (.t 10) .skip (.exit 0))
 (.seq (.block 1 (oQ [oW 11 (.indexAddr 5 (.t 7) (.t 9)),oL 12 5 11,oW 5 (.alloc 62 5 (.agg [.str [],.int .i64 0,.int .i64 0,.int .i64 0,.str []])),oS 5 5 12]
 (oQ [oA 13 4 5,oD 14 13,oW 15 (.call (oF 168) [.t 14]),oW 6 (.alloc 202 3 (.agg [.bool false,.int .i64 0,.str []])),oS 3 6 15]
 (.seq (oQ [oA 16 1 5,oD 17 16,oW 18 (.arith .eql (.t 17) (oI 1))]
 (.cond (.t 18) (.region [oA 19 2 5,oD 20 19,oW 21 (.call (oF 196) [.t 20]),oS 3 6 21]) .skip))
 (.region [oM 22 3,oA 23 0 5,oD 24 23,oL 25 3 6,oW 26 (.build [.str [],.bool false,.int .i64 0,.str []] [(0,1,.t 24),(1,3,.t 25)]),oW 27 (.buildSlice 206 4 (.agg [.str [],.bool false,.int .i64 0,.str []]) 1 [(0,.t 26)]),oW 28 (.append 206 4 48 (.t 22) (.t 27)),oM 3 28])))))
 (.region [oW 29 (.arith .add (.t 9) (oI 1)),oM 9 29]))))
def t161k0:DCode :=
 (oQ [oM 30 3,oM 2 30]
 .ret)
def t161:DFunc:={ntmps:=31,results:=[.t 2],mode:=.pure,body :=
 (oQ [oW 2 (.move (.c .nsl))]
 (oQ [oW 3 (.move (.c .nsl))]
 (.seq (oQ [oM 7 0,oW 8 (.len 1 (.t 7)),oW 9 (.move (oI 0))]
 (.block 0 (.loop t161l0)))
 t161k0)))}
theorem c161:compFunc Tryz.prog Tryz.f161 .pure=some t161:=by kernel_rfl
def t162l0:DCode :=
 (.seq (oQ [oM 15 9,oM 16 10,oW 17 (.arith .lss (.t 15) (.t 16))]
 (.cond (.t 17) .skip (.exit 0)))
 (.block 1 (oQ [oM 18 9,oM 19 10,oW 20 (.arith .add (.t 18) (.t 19)),oW 21 (.conv .u64 (.t 20)),oW 22 (.arith .shr (.t 21) (.c (.int .u64 1))),oW 23 (.conv .i64 (.t 22)),oM 11 23]
 (.seq (.draw [oRM 25 0,oRM 26 11,oR 27 (.indexAddr 3 (.t 25) (.t 26)),oRL 28 3 27,oRL 29 2 4,oRM 24 2,oW 30 (.call (.t 24) [.t 28,.t 29]),nK 31 (.arith .lss (.t 30) (oI 0)) .read 1])
 (.cond (.t 31) (.region [oM 32 11,oW 33 (.arith .add (.t 32) (oI 1)),oM 9 33]) (.region [oM 34 11,oM 10 34]))))))
def t162k0:DCode :=
 (.seq (.draw [oRM 36 9,oRM 37 8,oR 38 (.arith .lss (.t 36) (.t 37)),oRM 39 38,rM 41 0 39 true,rM 42 9 39 true,rW 43 (.indexAddr 3 (.t 41) (.t 42)) 39 true,rL 44 3 43 39 true,rL 45 2 4 39 true,rM 40 2 39 true,gW 46 (.call (.t 40) [.t 44,.t 45]) 39 true,oRM 35 9,⟨(some 47),.arith .eql (.t 46) (oI 0),(some (39,true)),.read,1,false⟩,nK 48 (.pick (.t 39) (.t 47) (oB false)) .read 1,nK 6 (.move (.t 35)) .read 1,nK 7 (.move (.t 48)) .read 1])
 .ret)
def t162:DFunc:={ntmps:=49,results:=[.t 6,.t 7],mode:=.pure,body :=
 (oQ [oW 4 (.box 37 2 (.t 1)),oW 6 (.move (oI 0)),oW 7 (.move (oB false))]
 (oQ [oM 12 0,oW 13 (.len 1 (.t 12)),oM 8 13]
 (oQ [oM 14 8,oW 9 (.move (oI 0)),oM 10 14]
 (.seq (.block 0 (.loop t162l0))
 t162k0))))}
theorem c162:compFunc Tryz.prog Tryz.f162 .pure=some t162:=by kernel_rfl
def t163:DFunc:={ntmps:=15,results:=[.t 4],mode:=.pure,body :=
 (oQ [oW 2 (.box 60 3 (.t 0)),oW 3 (.box 37 2 (.t 1)),oW 4 (.move (oI 0))]
 (.seq (.block 0 (oQ [oA 6 0 2,oL 7 2 6,oL 8 2 3,oW 9 (.eqa false [1,1] (.t 7) (.t 8)),oM 5 9]
 (.cond (.t 5) (oQ [oW 4 (.move (oI 0))]
 .ret) (oQ [oA 11 0 2,oL 12 2 11,oL 13 2 3,oW 14 (.call (oF 56) [.t 12,.t 13]),oM 10 14]
 (.cond (.t 10) (oQ [oW 4 (.move (oI (-1)))]
 .ret) .skip)))))
 (oQ [oW 4 (.move (oI 1))]
 .ret)))}
theorem c163:compFunc Tryz.prog Tryz.f163 .pure=some t163:=by kernel_rfl
def t165:DFunc:={ntmps:=10,results:=[],mode:=.full,body :=
 (.region [oM 4 0,oM 5 0,oW 6 (.len 1 (.t 5)),oM 7 1,oW 8 (.arith .sub (.t 6) (.t 7)),oW 9 (.call (oF 197) [.t 4,.t 8])])}
theorem c165:compFunc Tryz.prog Tryz.f165 .full=some t165:=by kernel_rfl
def t166:DFunc:={ntmps:=8,results:=[.t 4],mode:=.pure,body :=
 (oQ [oW 4 (.move (oB false))]
 (oQ [oM 5 0,oM 6 1,oW 7 (.call (oF 198) [.t 5,.t 6]),oM 4 7]
 .ret))}
theorem c166:compFunc Tryz.prog Tryz.f166 .pure=some t166:=by kernel_rfl
def t167:DFunc:={ntmps:=48,results:=[.t 4],mode:=.pure,body :=
 (oQ [oW 2 (.box 62 5 (.t 0)),oW 3 (.box 202 3 (.t 1)),oW 4 (.move (oB false))]
 (.seq (oQ [oA 5 1 2,oD 6 5]
 (.block 0 (oQ [oW 8 (.arith .eql (.t 6) (oI 1)),oM 7 8]
 (.cond (.t 7) (oQ [oA 9 0 3,oD 10 9,oW 11 (.un .not (.t 10)),oM 12 11,gA 13 2 2 12 true,gD 14 13 12 true,gA 15 1 3 12 true,gD 16 15 12 true,gW 17 (.arith .leq (.t 14) (.t 16)) 12 true,oW 18 (.pick (.t 12) (.t 17) (oB false)),oM 19 18,gA 20 1 3 19 true,gD 21 20 19 true,gA 22 3 2 19 true,gD 23 22 19 true,gW 24 (.arith .leq (.t 21) (.t 23)) 19 true,oW 25 (.pick (.t 19) (.t 24) (oB false)),oM 4 25]
 .ret) (oQ [oW 27 (.arith .eql (.t 6) (oI 2)),oM 26 27]
 (.cond (.t 26) (oQ [oA 28 0 3,oD 29 28,oM 30 29,gA 31 2 3 30 true,gD 32 31 30 true,gA 33 4 2 30 true,gD 34 33 30 true,gW 35 (.arith .eql (.t 32) (.t 34)) 30 true,oW 36 (.pick (.t 30) (.t 35) (oB false)),oM 4 36]
 .ret) (oQ [oW 38 (.arith .eql (.t 6) (oI 3)),oM 37 38]
 (.cond (.t 37) (oQ [oA 39 0 3,oD 40 39,oM 41 40,gA 42 2 3 41 true,gD 43 42 41 true,gA 44 4 2 41 true,gD 45 44 41 true,gW 46 (.call (oF 166) [.t 43,.t 45]) 41 true,oW 47 (.pick (.t 41) (.t 46) (oB false)),oM 4 47]
 .ret) .skip))))))))
 (oQ [oW 4 (.move (oB false))]
 .ret)))}
theorem c167:compFunc Tryz.prog Tryz.f167 .pure=some t167:=by kernel_rfl
def t168:DFunc:={ntmps:=5,results:=[(.cell 2 (some 3))],mode:=.pure,body :=
 (oQ [oW 2 (.alloc 202 3 (.agg [.bool false,.int .i64 0,.str []]))]
 (oQ [oM 3 0,oW 4 (.build [.bool false,.int .i64 0,.str []] [(0,1,oB true),(2,1,.t 3)]),oS 3 2 4]
 .ret))}
theorem c168:compFunc Tryz.prog Tryz.f168 .pure=some t168:=by kernel_rfl
def t170l0:DCode :=
 (.seq (.seq (.draw [oRM 16 7,oRM 17 1,oR 18 (.arith .gtr (.t 16) (.t 17)),oRM 19 18,rM 20 0 19 true,rM 21 7 19 true,rW 22 (.indexAddr 1 (.t 20) (.t 21)) 19 true,rD 23 22 19 true,rM 24 0 19 true,rM 25 7 19 true,rW 26 (.arith .sub (.t 25) (oI 1)) 19 true,rW 27 (.indexAddr 1 (.t 24) (.t 26)) 19 true,rD 28 27 19 true,gW 29 (.call (oF 176) [.t 23,.t 28]) 19 true,nK 30 (.pick (.t 19) (.t 29) (oB false)) .read 1])
 (.cond (.t 30) .skip (.exit 2)))
 (.seq (.block 3 (.draw [oRM 38 0,oRM 39 7,oR 40 (.arith .sub (.t 39) (oI 1)),oR 41 (.indexAddr 1 (.t 38) (.t 40)),oRD 42 41,oRM 43 0,oRM 44 7,oR 45 (.indexAddr 1 (.t 43) (.t 44)),oRD 46 45,oRM 33 0,oRM 34 7,oR 47 (.indexAddr 1 (.t 33) (.t 34)),oS 1 47 42,oRM 35 0,oRM 36 7,oR 37 (.arith .sub (.t 36) (oI 1)),nK 48 (.indexAddr 1 (.t 35) (.t 37)) .read 1,⟨none,.store 1 (.t 48) (.t 46),none,.write,1,false⟩]))
 (.region [oM 31 7,oW 32 (.arith .sub (.t 31) (oI 1)),oM 7 32])))
def t170k0:DCode :=
 (.region [oM 13 6,oW 14 (.arith .add (.t 13) (oI 1)),oM 6 14])
def t170l1:DCode :=
 (.seq (oQ [oM 10 6,oM 11 2,oW 12 (.arith .lss (.t 10) (.t 11))]
 (.cond (.t 12) .skip (.exit 0)))
 (.seq (.block 1 (oQ [oM 15 6,oM 7 15]
 (.block 2 (.loop t170l0))))
 t170k0))
def t170:DFunc:={ntmps:=49,results:=[],mode:=.full,body :=
 (oQ [oM 8 1,oW 9 (.arith .add (.t 8) (oI 1)),oM 6 9]
 (.block 0 (.loop t170l1)))}
theorem c170:compFunc Tryz.prog Tryz.f170 .full=some t170:=by kernel_rfl
def t171l0:DCode :=
 (.seq (oQ [oM 18 9,oW 19 (.arith .geq (.t 18) (oI 0))]
 (.cond (.t 19) .skip (.exit 0)))
 (.seq (.block 1 (.region [oM 22 0,oM 23 9,oM 24 8,oM 25 6,oW 26 (.call (oF 199) [.t 22,.t 23,.t 24,.t 25])]))
 (.region [oM 20 9,oW 21 (.arith .sub (.t 20) (oI 1)),oM 9 21])))
def t171l1:DCode :=
 (.seq (oQ [oM 29 10,oW 30 (.arith .geq (.t 29) (oI 0))]
 (.cond (.t 30) .skip (.exit 2)))
 (.seq (.block 3 (.seq (.draw [oRM 39 0,oRM 40 6,oRM 41 10,oR 42 (.arith .add (.t 40) (.t 41)),oR 43 (.indexAddr 1 (.t 39) (.t 42)),oRD 44 43,oRM 45 0,oRM 46 6,oR 47 (.indexAddr 1 (.t 45) (.t 46)),oRD 48 47,oRM 33 0,oRM 34 6,oR 49 (.indexAddr 1 (.t 33) (.t 34)),oS 1 49 44,oRM 35 0,oRM 36 6,oRM 37 10,oR 38 (.arith .add (.t 36) (.t 37)),nK 50 (.indexAddr 1 (.t 35) (.t 38)) .read 1,⟨none,.store 1 (.t 50) (.t 48),none,.write,1,false⟩])
 (.region [oM 51 0,oM 52 7,oM 53 10,oM 54 6,oW 55 (.call (oF 199) [.t 51,.t 52,.t 53,.t 54])])))
 (.region [oM 31 10,oW 32 (.arith .sub (.t 31) (oI 1)),oM 10 32])))
def t171k0:DCode :=
 (oQ [oM 27 8,oW 28 (.arith .sub (.t 27) (oI 1)),oM 10 28]
 (.block 2 (.loop t171l1)))
def t171:DFunc:={ntmps:=56,results:=[],mode:=.full,body :=
 (oQ [oM 11 1,oM 6 11]
 (oQ [oW 7 (.move (oI 0))]
 (oQ [oM 12 2,oM 13 1,oW 14 (.arith .sub (.t 12) (.t 13)),oM 8 14]
 (.seq (oQ [oM 15 8,oW 16 (.arith .sub (.t 15) (oI 1)),oW 17 (.arith .quo (.t 16) (oI 2)),oM 9 17]
 (.block 0 (.loop t171l0)))
 t171k0))))}
theorem c171:compFunc Tryz.prog Tryz.f171 .full=some t171:=by kernel_rfl
def t172l0:DCode :=
 (.seq (oQ [oM 26 9,oM 27 1,oM 28 6,oW 29 (.arith .quo (.t 28) (oI 4)),oW 30 (.arith .mul (.t 29) (oI 2)),oW 31 (.arith .add (.t 27) (.t 30)),oW 32 (.arith .add (.t 31) (oI 1)),oW 33 (.arith .leq (.t 26) (.t 32))]
 (.cond (.t 33) .skip (.exit 0)))
 (.seq (.block 1 (oQ [oW 36 (.call (oF 201) [.t 7]),oM 37 8,oW 38 (.arith .sub (.t 37) (.c (.int .u64 1))),oW 39 (.arith .and (.t 36) (.t 38)),oW 40 (.conv .i64 (.t 39)),oM 10 40]
 (.seq (oQ [oM 41 10,oM 42 6,oW 43 (.arith .geq (.t 41) (.t 42))]
 (.cond (.t 43) (.region [oM 44 10,oM 45 6,oW 46 (.arith .sub (.t 44) (.t 45)),oM 10 46]) .skip))
 (.draw [oRM 53 0,oRM 54 1,oRM 55 10,oR 56 (.arith .add (.t 54) (.t 55)),oR 57 (.indexAddr 1 (.t 53) (.t 56)),oRD 58 57,oRM 59 0,oRM 60 9,oR 61 (.indexAddr 1 (.t 59) (.t 60)),oRD 62 61,oRM 47 0,oRM 48 9,oR 63 (.indexAddr 1 (.t 47) (.t 48)),oS 1 63 58,oRM 49 0,oRM 50 1,oRM 51 10,oR 52 (.arith .add (.t 50) (.t 51)),nK 64 (.indexAddr 1 (.t 49) (.t 52)) .read 1,⟨none,.store 1 (.t 64) (.t 62),none,.write,1,false⟩]))))
 (.region [oM 34 9,oW 35 (.arith .add (.t 34) (oI 1)),oM 9 35])))
def t172:DFunc:={ntmps:=65,results:=[],mode:=.full,body :=
 (oQ [oM 11 2,oM 12 1,oW 13 (.arith .sub (.t 11) (.t 12)),oM 6 13]
 (oQ [oM 14 6,oW 15 (.arith .geq (.t 14) (oI 8))]
 (.cond (.t 15) (oQ [oM 16 6,oW 17 (.conv .u64 (.t 16)),oW 7 (.alloc 231 1 (.int .u64 0)),oS 1 7 17]
 (oQ [oM 18 6,oW 19 (.call (oF 200) [.t 18]),oM 8 19]
 (oQ [oM 20 1,oM 21 6,oW 22 (.arith .quo (.t 21) (oI 4)),oW 23 (.arith .mul (.t 22) (oI 2)),oW 24 (.arith .add (.t 20) (.t 23)),oW 25 (.arith .sub (.t 24) (oI 1)),oM 9 25]
 (.block 0 (.loop t172l0))))) .skip)))}
theorem c172:compFunc Tryz.prog Tryz.f172 .full=some t172:=by kernel_rfl
def t173:DFunc:={ntmps:=57,results:=[.t 6,.t 7],mode:=.full,body :=
 (oQ [oW 6 (.move (oI 0)),oW 7 (.move (oI 0))]
 (oQ [oM 13 2,oM 14 1,oW 15 (.arith .sub (.t 13) (.t 14)),oM 8 15]
 (oQ [oW 9 (.alloc 3 1 (.int .i64 0))]
 (oQ [oM 16 1,oM 17 8,oW 18 (.arith .quo (.t 17) (oI 4)),oW 19 (.arith .mul (.t 18) (oI 1)),oW 20 (.arith .add (.t 16) (.t 19)),oM 10 20]
 (oQ [oM 21 1,oM 22 8,oW 23 (.arith .quo (.t 22) (oI 4)),oW 24 (.arith .mul (.t 23) (oI 2)),oW 25 (.arith .add (.t 21) (.t 24)),oM 11 25]
 (oQ [oM 26 1,oM 27 8,oW 28 (.arith .quo (.t 27) (oI 4)),oW 29 (.arith .mul (.t 28) (oI 3)),oW 30 (.arith .add (.t 26) (.t 29)),oM 12 30]
 (.seq (oQ [oM 31 8,oW 32 (.arith .geq (.t 31) (oI 8))]
 (.cond (.t 32) (.seq (oQ [oM 33 8,oW 34 (.arith .geq (.t 33) (oI 50))]
 (.cond (.t 34) (oQ [oM 35 0,oM 36 10,oW 37 (.call (oF 202) [.t 35,.t 36,.t 9]),oM 10 37]
 (oQ [oM 38 0,oM 39 11,oW 40 (.call (oF 202) [.t 38,.t 39,.t 9]),oM 11 40]
 (.region [oM 41 0,oM 42 12,oW 43 (.call (oF 202) [.t 41,.t 42,.t 9]),oM 12 43]))) .skip))
 (.region [oM 44 0,oM 45 10,oM 46 11,oM 47 12,oW 48 (.call (oF 203) [.t 44,.t 45,.t 46,.t 47,.t 9]),oM 11 48])) .skip))
 (oQ [oD 49 9]
 (.block 0 (oQ [oW 52 (.arith .eql (.t 49) (oI 0)),oM 51 52]
 (.cond (.t 51) (oQ [oM 53 11,oM 6 53,oW 7 (.move (oI 1))]
 .ret) (oQ [oW 55 (.arith .eql (.t 49) (oI 12)),oM 54 55]
 (.cond (.t 54) (oQ [oM 56 11,oM 6 56,oW 7 (.move (oI 2))]
 .ret) (oQ [oM 50 11,oM 6 50,oW 7 (.move (oI 0))]
 .ret))))))))))))))}
theorem c173:compFunc Tryz.prog Tryz.f173 .full=some t173:=by kernel_rfl
def t174l0:DCode :=
 (.seq (oQ [oM 11 6,oM 12 7,oW 13 (.arith .lss (.t 11) (.t 12))]
 (.cond (.t 13) .skip (.exit 0)))
 (.block 1 (.seq (.draw [oRM 18 0,oRM 19 7,oR 20 (.indexAddr 1 (.t 18) (.t 19)),oRD 21 20,oRM 22 0,oRM 23 6,oR 24 (.indexAddr 1 (.t 22) (.t 23)),oRD 25 24,oRM 14 0,oRM 15 6,oR 26 (.indexAddr 1 (.t 14) (.t 15)),oS 1 26 21,oRM 16 0,oRM 17 7,nK 27 (.indexAddr 1 (.t 16) (.t 17)) .read 1,⟨none,.store 1 (.t 27) (.t 25),none,.write,1,false⟩])
 (oQ [oM 28 6,oW 29 (.arith .add (.t 28) (oI 1)),oM 6 29]
 (.region [oM 30 7,oW 31 (.arith .sub (.t 30) (oI 1)),oM 7 31])))))
def t174:DFunc:={ntmps:=32,results:=[],mode:=.full,body :=
 (oQ [oM 8 1,oM 6 8]
 (oQ [oM 9 2,oW 10 (.arith .sub (.t 9) (oI 1)),oM 7 10]
 (.block 0 (.loop t174l0))))}
theorem c174:compFunc Tryz.prog Tryz.f174 .full=some t174:=by kernel_rfl
def t175l0:DCode :=
 (.seq (.seq (.draw [oRM 17 7,oRM 18 2,oR 19 (.arith .lss (.t 17) (.t 18)),oRM 20 19,rM 21 0 20 true,rM 22 7 20 true,rW 23 (.indexAddr 1 (.t 21) (.t 22)) 20 true,rD 24 23 20 true,rM 25 0 20 true,rM 26 7 20 true,rW 27 (.arith .sub (.t 26) (oI 1)) 20 true,rW 28 (.indexAddr 1 (.t 25) (.t 27)) 20 true,rD 29 28 20 true,gW 30 (.call (oF 176) [.t 24,.t 29]) 20 true,⟨(some 31),.un .not (.t 30),(some (20,true)),.read,1,false⟩,nK 32 (.pick (.t 20) (.t 31) (oB false)) .read 1])
 (.cond (.t 32) .skip (.exit 2)))
 (.block 3 (.region [oM 33 7,oW 34 (.arith .add (.t 33) (oI 1)),oM 7 34])))
def t175l1:DCode :=
 (.seq (oQ [oM 64 9,oW 65 (.arith .geq (.t 64) (oI 1))]
 (.cond (.t 65) .skip (.exit 4)))
 (.seq (.block 5 (.seq (.seq (.draw [oRM 68 0,oRM 69 9,oR 70 (.indexAddr 1 (.t 68) (.t 69)),oRD 71 70,oRM 72 0,oRM 73 9,oR 74 (.arith .sub (.t 73) (oI 1)),oR 75 (.indexAddr 1 (.t 72) (.t 74)),oRD 76 75,oW 77 (.call (oF 176) [.t 71,.t 76]),nK 78 (.un .not (.t 77)) .read 1])
 (.cond (.t 78) (.exit 4) .skip))
 (.draw [oRM 84 0,oRM 85 9,oR 86 (.arith .sub (.t 85) (oI 1)),oR 87 (.indexAddr 1 (.t 84) (.t 86)),oRD 88 87,oRM 89 0,oRM 90 9,oR 91 (.indexAddr 1 (.t 89) (.t 90)),oRD 92 91,oRM 79 0,oRM 80 9,oR 93 (.indexAddr 1 (.t 79) (.t 80)),oS 1 93 88,oRM 81 0,oRM 82 9,oR 83 (.arith .sub (.t 82) (oI 1)),nK 94 (.indexAddr 1 (.t 81) (.t 83)) .read 1,⟨none,.store 1 (.t 94) (.t 92),none,.write,1,false⟩])))
 (.region [oM 66 9,oW 67 (.arith .sub (.t 66) (oI 1)),oM 9 67])))
def t175l2:DCode :=
 (.seq (oQ [oM 101 10,oM 102 2,oW 103 (.arith .lss (.t 101) (.t 102))]
 (.cond (.t 103) .skip (.exit 6)))
 (.seq (.block 7 (.seq (.seq (.draw [oRM 106 0,oRM 107 10,oR 108 (.indexAddr 1 (.t 106) (.t 107)),oRD 109 108,oRM 110 0,oRM 111 10,oR 112 (.arith .sub (.t 111) (oI 1)),oR 113 (.indexAddr 1 (.t 110) (.t 112)),oRD 114 113,oW 115 (.call (oF 176) [.t 109,.t 114]),nK 116 (.un .not (.t 115)) .read 1])
 (.cond (.t 116) (.exit 6) .skip))
 (.draw [oRM 122 0,oRM 123 10,oR 124 (.arith .sub (.t 123) (oI 1)),oR 125 (.indexAddr 1 (.t 122) (.t 124)),oRD 126 125,oRM 127 0,oRM 128 10,oR 129 (.indexAddr 1 (.t 127) (.t 128)),oRD 130 129,oRM 117 0,oRM 118 10,oR 131 (.indexAddr 1 (.t 117) (.t 118)),oS 1 131 126,oRM 119 0,oRM 120 10,oR 121 (.arith .sub (.t 120) (oI 1)),nK 132 (.indexAddr 1 (.t 119) (.t 121)) .read 1,⟨none,.store 1 (.t 132) (.t 130),none,.write,1,false⟩])))
 (.region [oM 104 10,oW 105 (.arith .add (.t 104) (oI 1)),oM 10 105])))
def t175k0:DCode :=
 (oQ [oM 95 2,oM 96 7,oW 97 (.arith .sub (.t 95) (.t 96)),oW 98 (.arith .geq (.t 97) (oI 2))]
 (.cond (.t 98) (oQ [oM 99 7,oW 100 (.arith .add (.t 99) (oI 1)),oM 10 100]
 (.block 6 (.loop t175l2))) .skip))
def t175k1:DCode :=
 (.seq (oQ [oM 35 7,oM 36 2,oW 37 (.arith .eql (.t 35) (.t 36))]
 (.cond (.t 37) (oQ [oW 6 (.move (oB true))]
 .ret) .skip))
 (.seq (oQ [oM 38 2,oM 39 1,oW 40 (.arith .sub (.t 38) (.t 39)),oW 41 (.arith .lss (.t 40) (oI 50))]
 (.cond (.t 41) (oQ [oW 6 (.move (oB false))]
 .ret) .skip))
 (.seq (.draw [oRM 47 0,oRM 48 7,oR 49 (.arith .sub (.t 48) (oI 1)),oR 50 (.indexAddr 1 (.t 47) (.t 49)),oRD 51 50,oRM 52 0,oRM 53 7,oR 54 (.indexAddr 1 (.t 52) (.t 53)),oRD 55 54,oRM 42 0,oRM 43 7,oR 56 (.indexAddr 1 (.t 42) (.t 43)),oS 1 56 51,oRM 44 0,oRM 45 7,oR 46 (.arith .sub (.t 45) (oI 1)),nK 57 (.indexAddr 1 (.t 44) (.t 46)) .read 1,⟨none,.store 1 (.t 57) (.t 55),none,.write,1,false⟩])
 (.seq (oQ [oM 58 7,oM 59 1,oW 60 (.arith .sub (.t 58) (.t 59)),oW 61 (.arith .geq (.t 60) (oI 2))]
 (.cond (.t 61) (oQ [oM 62 7,oW 63 (.arith .sub (.t 62) (oI 1)),oM 9 63]
 (.block 4 (.loop t175l1))) .skip))
 t175k0))))
def t175k2:DCode :=
 (.region [oM 15 8,oW 16 (.arith .add (.t 15) (oI 1)),oM 8 16])
def t175l3:DCode :=
 (.seq (oQ [oM 13 8,oW 14 (.arith .lss (.t 13) (oI 5))]
 (.cond (.t 14) .skip (.exit 0)))
 (.seq (.block 1 (.seq (.block 2 (.loop t175l0))
 t175k1))
 t175k2))
def t175k3:DCode :=
 (oQ [oW 6 (.move (oB false))]
 .ret)
def t175:DFunc:={ntmps:=133,results:=[.t 6],mode:=.full,body :=
 (oQ [oW 6 (.move (oB false))]
 (oQ [oM 11 1,oW 12 (.arith .add (.t 11) (oI 1)),oM 7 12]
 (.seq (oQ [oW 8 (.move (oI 0))]
 (.block 0 (.loop t175l3)))
 t175k3)))}
theorem c175:compFunc Tryz.prog Tryz.f175 .full=some t175:=by kernel_rfl
end Go.Dm.Tc
