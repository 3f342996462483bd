/- A part of the proof. -/
import Derived.Test.YtfkbogedodngeaaGreatDoorTc0
import Derived.Test.YtfkbogedodngeaaGreatDoorMm4
import Derived.Test.YtfkbogedodngeaaGreatDoorRows
import Derived.KernelRfl
namespace Go.Dm.Tc
open Go.Proofs
def Oy:aM :=
 (oQ [oW 12 (.arith .lss (.t 11) (.t 10))]
 (.seq (.cond (.t 12) .skip (.exit 0))
 (.seq (.block 1 (oQ [oW 13 (.indexAddr 7 (.t 9) (.t 11)),oL 14 7 13,oW 7 (.alloc 70 7 (.agg [.int .i64 0,.int .i64 0,.int .i64 0,.int .i64 0,.nsl,.int .i64 0,.bool false])),oS 7 7 14]
 (oQ [oA 15 0 7,oL 16 2 15,oL 17 2 3,oW 18 (.eqa false [1,1] (.t 16) (.t 17))]
 (.cond (.t 18) (.region [oM 19 5,oL 20 7 7,oW 21 (.buildSlice 70 7 (.agg [.int .i64 0,.int .i64 0,.int .i64 0,.int .i64 0,.nsl,.int .i64 0,.bool false]) 1 [(0,.t 20)]),oW 22 (.append 70 7 72 (.t 19) (.t 21)),oM 5 22]) .skip))))
 (.region [oW 23 (.arith .add (.t 11) (oI 1)),oM 11 23]))))
def B8:aM :=
 (oQ [oM 24 5,oM 4 24]
 .ret)
def AD:aS:={ntmps:=25,results:=[.t 4],mode:=.pure,body :=
 (oQ [oW 2 (.box 37 6 (.t 0)),oW 3 (.box 45 2 (.t 1)),oW 4 (.move (.c .nsl))]
 (oQ [oW 5 (.move (.c .nsl))]
 (.seq (oQ [oA 8 4 2,oD 9 8,oW 10 (.len 1 (.t 9)),oW 11 (.move (oI 0))]
 (.block 0 (.loop Oy)))
 B8)))}
theorem c224:aH Tryz.prog Tryz.f224 .pure=some AD:=by kernel_rfl
def AC:aS:={ntmps:=12,results:=[.t 3],mode:=.pure,body :=
 (oQ [oW 2 (.box 70 7 (.t 0)),oW 3 (.move (oB false))]
 (oQ [oA 4 6 2,oD 5 4,oM 6 5,gA 7 4 2 6 true,gD 8 7 6 true,gD 9 1 6 true,gW 10 (.call (oF 226) [.t 8,.t 9]) 6 true,oW 11 (.pick (.t 6) (.t 10) (oB false)),oM 3 11]
 .ret))}
theorem c225:aH Tryz.prog Tryz.f225 .pure=some AC:=by kernel_rfl
def Ow:aM :=
 (oQ [oW 16 (.arith .lss (.t 15) (.t 14))]
 (.seq (.cond (.t 16) .skip (.exit 0))
 (.seq (.block 1 (oQ [oW 17 (.indexAddr 5 (.t 13) (.t 15)),oL 18 5 17,oW 7 (.alloc 94 5 (.agg [.str [],.int .i64 0,.int .i64 0,.int .i64 0,.str []])),oS 5 7 18]
 (.region [oM 19 5,oA 20 0 7,oD 21 20,oL 22 5 7,oZ (.mapUpdate (.prim 2) (.t 19) (.t 21) (.t 22))])))
 (.region [oW 23 (.arith .add (.t 15) (oI 1)),oM 15 23]))))
def Ov:aM :=
 (oQ [oW 27 (.arith .lss (.t 26) (.t 25))]
 (.seq (.cond (.t 27) .skip (.exit 2))
 (.seq (.block 3 (oQ [oW 28 (.indexAddr 5 (.t 24) (.t 26)),oL 29 5 28,oW 9 (.alloc 94 5 (.agg [.str [],.int .i64 0,.int .i64 0,.int .i64 0,.str []])),oS 5 9 29]
 (oQ [oM 31 5,oA 32 0 9,oD 33 32,oW 34 (.lookup (.prim 2) (.agg [.str [],.int .i64 0,.int .i64 0,.int .i64 0,.str []]) true (.t 31) (.t 33)),oM 30 34,oX 35 30 0,oX 36 30 1,oW 10 (.alloc 94 5 (.agg [.str [],.int .i64 0,.int .i64 0,.int .i64 0,.str []])),oS 5 10 35,oM 11 36]
 (oQ [oM 37 11,oW 38 (.un .not (.t 37)),oM 39 38,gL 40 5 9 39 false,gL 41 5 10 39 false,gW 42 (.call (oF 278) [.t 40,.t 41]) 39 false,gW 43 (.un .not (.t 42)) 39 false,oW 44 (.pick (.t 39) (oB true) (.t 43))]
 (.cond (.t 44) (oQ [oW 4 (.move (oB false))]
 .ret) .skip)))))
 (.region [oW 45 (.arith .add (.t 26) (oI 1)),oM 26 45]))))
def B7:aM :=
 (oQ [oW 4 (.move (oB true))]
 .ret)
def Ox:aM :=
 (.seq (oQ [oM 24 0,oW 25 (.len 1 (.t 24)),oW 26 (.move (oI 0))]
 (.block 2 (.loop Ov)))
 B7)
def AB:aS:={ntmps:=46,results:=[.t 4],mode:=.pure,body :=
 (oQ [oW 4 (.move (oB false))]
 (oQ [oW 12 (.makeMap),oM 5 12]
 (.seq (oQ [oM 13 1,oW 14 (.len 1 (.t 13)),oW 15 (.move (oI 0))]
 (.block 0 (.loop Ow)))
 Ox)))}
theorem c226:aH Tryz.prog Tryz.f226 .pure=some AB:=by kernel_rfl
def ZI:aS:={ntmps:=20,results:=[(.cell 4 (some 4)),.t 5],mode:=.full,body :=
 (oQ [oW 3 (.box 45 2 (.t 1)),oW 4 (.alloc 68 4 (.agg [.int .i64 0,.int .i64 0,.nsl,.int .i64 0])),oW 5 (.move (oB false))]
 (oQ [oM 8 0,oW 9 (.call (oF 169) [.t 8]),oM 6 9]
 (oQ [oM 10 6,oW 11 (.makeFunc 279 [.t 3]),oW 12 (.call (oF 219) [.t 10,.t 11]),oM 7 12]
 (.seq (oQ [oM 13 7,oW 14 (.arith .lss (.t 13) (oI 0))]
 (.cond (.t 14) (oQ [oW 15 (.build [.int .i64 0,.int .i64 0,.nsl,.int .i64 0] []),oS 4 4 15,oW 5 (.move (oB false))]
 .ret) .skip))
 (oQ [oM 16 6,oM 17 7,oW 18 (.indexAddr 4 (.t 16) (.t 17)),oL 19 4 18,oS 4 4 19,oW 5 (.move (oB true))]
 .ret)))))}
theorem c227:aH Tryz.prog Tryz.f227 .full=some ZI:=by kernel_rfl
def yG:aS:={ntmps:=83,results:=[(.cell 4 (some 5)),.t 5],mode:=.pure,body :=
 (oQ [oW 2 (.box 94 5 (.t 0)),oW 3 (.box 94 5 (.t 1)),oW 4 (.alloc 94 5 (.agg [.str [],.int .i64 0,.int .i64 0,.int .i64 0,.str []])),oW 5 (.move (oB false))]
 (.seq (.block 0 (oQ [oA 7 1 2,oD 8 7,oW 9 (.arith .eql (.t 8) (oI 1)),oM 10 9,gA 11 1 3 10 true,gD 12 11 10 true,gW 13 (.arith .eql (.t 12) (oI 1)) 10 true,oW 14 (.pick (.t 10) (.t 13) (oB false)),oM 6 14]
 (.cond (.t 6) (.seq (.draw [oRA 15 2 2,⟨(some 16),.load none (.t 15),none,.read,0,true⟩,oRA 17 2 3,⟨(some 18),.load none (.t 17),none,.read,0,true⟩,oRA 20 3 2,⟨(some 21),.load none (.t 20),none,.read,0,true⟩,oRA 22 3 3,oRD 23 22,oR 19 (.minmax true (.t 16) (.t 18)),oRA 25 2 2,⟨none,.store 1 (.t 25) (.t 19),none,.create,0,false⟩,oR 24 (.minmax false (.t 21) (.t 23)),nK 26 (.fieldAddr 3 (.t 2)) .read 1,⟨none,.store 1 (.t 26) (.t 24),none,.write,1,false⟩])
 (.seq (.draw [⟨(some 27),.load (some 5) (.t 2),none,.read,0,true⟩,oRA 28 2 2,oRD 29 28,oRA 30 3 2,oRD 31 30,⟨none,.store 5 (.t 4) (.t 27),none,.create,0,false⟩,oR 32 (.arith .leq (.t 29) (.t 31)),nK 5 (.move (.t 32)) .read 1])
 .ret)) (oQ [oA 34 1 2,oD 35 34,oW 36 (.arith .eql (.t 35) (oI 1)),oM 37 36,gA 38 1 3 37 false,gD 39 38 37 false,gW 40 (.arith .eql (.t 39) (oI 1)) 37 false,oW 41 (.pick (.t 37) (oB true) (.t 40)),oM 33 41]
 (.cond (.t 33) (oQ [oL 42 5 2,oS 5 4 42,oW 5 (.move (oB false))]
 .ret) (oQ [oA 44 1 2,oD 45 44,oW 46 (.arith .eql (.t 45) (oI 2)),oM 43 46]
 (.cond (.t 43) (.seq (.draw [oRL 47 5 2,oRL 48 5 3,oRA 49 4 2,oRD 50 49,oR 51 (.build [.bool false,.int .i64 0,.str []] [(0,1,oB true),(2,1,.t 50)]),nK 52 (.call (oF 259) [.t 48,.t 51]) .create 0,⟨none,.store 5 (.t 4) (.t 47),none,.write,1,false⟩,nK 5 (.move (.t 52)) .read 2])
 .ret) (oQ [oA 54 1 3,oD 55 54,oW 56 (.arith .eql (.t 55) (oI 2)),oM 53 56]
 (.cond (.t 53) (.seq (.draw [oRL 57 5 3,oRL 58 5 2,oRA 59 4 3,oRD 60 59,oR 61 (.build [.bool false,.int .i64 0,.str []] [(0,1,oB true),(2,1,.t 60)]),nK 62 (.call (oF 259) [.t 58,.t 61]) .create 0,⟨none,.store 5 (.t 4) (.t 57),none,.write,1,false⟩,nK 5 (.move (.t 62)) .read 2])
 .ret) (oQ [oA 64 4 2,oD 65 64,oW 66 (.len 0 (.t 65)),oA 67 4 3,oD 68 67,oW 69 (.len 0 (.t 68)),oW 70 (.arith .geq (.t 66) (.t 69)),oM 63 70]
 (.cond (.t 63) (.seq (.draw [oRL 71 5 2,oRA 72 4 2,oRD 73 72,oRA 74 4 3,oRD 75 74,nK 76 (.call (oF 308) [.t 73,.t 75]) .create 0,⟨none,.store 5 (.t 4) (.t 71),none,.write,1,false⟩,nK 5 (.move (.t 76)) .read 2])
 .ret) .skip)))))))))))
 (.seq (.draw [oRL 77 5 3,oRA 78 4 3,oRD 79 78,oRA 80 4 2,oRD 81 80,nK 82 (.call (oF 308) [.t 79,.t 81]) .create 0,⟨none,.store 5 (.t 4) (.t 77),none,.write,1,false⟩,nK 5 (.move (.t 82)) .read 2])
 .ret)))}
theorem c257:aH Tryz.prog Tryz.f257 .pure=some yG:=by kernel_rfl
def Gv:aM :=
 (oQ [oW 19 (.arith .lss (.t 18) (.t 17))]
 (.seq (.cond (.t 19) .skip (.exit 2))
 (.seq (.block 3 (oQ [oW 20 (.indexAddr 5 (.t 16) (.t 18)),oL 21 5 20,oW 9 (.alloc 94 5 (.agg [.str [],.int .i64 0,.int .i64 0,.int .i64 0,.str []])),oS 5 9 21]
 (.region [oM 22 7,oM 23 22,gA 24 0 9 23 false,gD 25 24 23 false,gA 26 0 6 23 false,gD 27 26 23 false,gW 28 (.arith .eql (.t 25) (.t 27)) 23 false,gM 29 28 23 false,gL 30 5 9 29 true,gL 31 5 6 29 true,gW 32 (.call (oF 309) [.t 30,.t 31]) 29 true,gW 33 (.pick (.t 29) (.t 32) (oB false)) 23 false,oW 34 (.pick (.t 23) (oB true) (.t 33)),oM 7 34])))
 (.region [oW 35 (.arith .add (.t 18) (oI 1)),oM 18 35]))))
def zG:aM :=
 (oQ [oM 36 7,oW 37 (.un .not (.t 36))]
 (.cond (.t 37) (oQ [oW 4 (.move (oB false))]
 .ret) .skip))
def B5:aM :=
 (.region [oW 38 (.arith .add (.t 12) (oI 1)),oM 12 38])
def Gu:aM :=
 (oQ [oW 13 (.arith .lss (.t 12) (.t 11))]
 (.seq (.cond (.t 13) .skip (.exit 0))
 (.seq (.block 1 (oQ [oW 14 (.indexAddr 5 (.t 10) (.t 12)),oL 15 5 14,oW 6 (.alloc 94 5 (.agg [.str [],.int .i64 0,.int .i64 0,.int .i64 0,.str []])),oS 5 6 15]
 (oQ [oW 7 (.move (oB false))]
 (.seq (oQ [oM 16 1,oW 17 (.len 1 (.t 16)),oW 18 (.move (oI 0))]
 (.block 2 (.loop Gv)))
 zG))))
 B5)))
def Ou:aM :=
 (oQ [oW 4 (.move (oB true))]
 .ret)
def B6:aS:={ntmps:=39,results:=[.t 4],mode:=.pure,body :=
 (oQ [oW 4 (.move (oB false))]
 (.seq (oQ [oM 10 0,oW 11 (.len 1 (.t 10)),oW 12 (.move (oI 0))]
 (.block 0 (.loop Gu)))
 Ou))}
theorem c258:aH Tryz.prog Tryz.f258 .pure=some B6:=by kernel_rfl
def Ot:aS:={ntmps:=48,results:=[.t 4],mode:=.pure,body :=
 (oQ [oW 2 (.box 94 5 (.t 0)),oW 3 (.box 184 3 (.t 1)),oW 4 (.move (oB false))]
 (.seq (oQ [oA 5 1 2,oD 6 5]
 (.block 0 (oQ [oW 8 (.arith .eql (.t 6) (oI 1)),oM 7 8]
 (.cond (.t 7) (oQ [oA 9 0 3,oD 10 9,oW 11 (.un .not (.t 10)),oM 12 11,gA 13 1 3 12 true,gD 14 13 12 true,gA 15 2 2 12 true,gD 16 15 12 true,gW 17 (.arith .geq (.t 14) (.t 16)) 12 true,oW 18 (.pick (.t 12) (.t 17) (oB false)),oM 19 18,gA 20 1 3 19 true,gD 21 20 19 true,gA 22 3 2 19 true,gD 23 22 19 true,gW 24 (.arith .leq (.t 21) (.t 23)) 19 true,oW 25 (.pick (.t 19) (.t 24) (oB false)),oM 4 25]
 .ret) (oQ [oW 27 (.arith .eql (.t 6) (oI 2)),oM 26 27]
 (.cond (.t 26) (oQ [oA 28 0 3,oD 29 28,oM 30 29,gA 31 2 3 30 true,gD 32 31 30 true,gA 33 4 2 30 true,gD 34 33 30 true,gW 35 (.arith .eql (.t 32) (.t 34)) 30 true,oW 36 (.pick (.t 30) (.t 35) (oB false)),oM 4 36]
 .ret) (oQ [oW 38 (.arith .eql (.t 6) (oI 3)),oM 37 38]
 (.cond (.t 37) (oQ [oA 39 0 3,oD 40 39,oM 41 40,gA 42 2 3 41 true,gD 43 42 41 true,gA 44 4 2 41 true,gD 45 44 41 true,gW 46 (.call (oF 308) [.t 43,.t 45]) 41 true,oW 47 (.pick (.t 41) (.t 46) (oB false)),oM 4 47]
 .ret) .skip))))))))
 (oQ [oW 4 (.move (oB false))]
 .ret)))}
theorem c259:aH Tryz.prog Tryz.f259 .pure=some Ot:=by kernel_rfl
def B4:aM :=
 (.seq (oQ [oM 15 9,oM 16 10,oW 17 (.arith .lss (.t 15) (.t 16))]
 (.cond (.t 17) .skip (.exit 0)))
 (.block 1 (oQ [oM 18 9,oM 19 10,oW 20 (.arith .add (.t 18) (.t 19)),oW 21 (.conv .u64 (.t 20)),oW 22 (.arith .shr (.t 21) (.c (.int .u64 1))),oW 23 (.conv .i64 (.t 22)),oM 11 23]
 (.seq (.draw [oRM 25 0,oRM 26 11,oR 27 (.indexAddr 2 (.t 25) (.t 26)),oRL 28 2 27,oRL 29 2 4,oRM 24 2,oW 30 (.call (.t 24) [.t 28,.t 29]),nK 31 (.arith .lss (.t 30) (oI 0)) .read 1])
 (.cond (.t 31) (.region [oM 32 11,oW 33 (.arith .add (.t 32) (oI 1)),oM 9 33]) (.region [oM 34 11,oM 10 34]))))))
def Oq:aM :=
 (.seq (.draw [oRM 36 9,oRM 37 8,oR 38 (.arith .lss (.t 36) (.t 37)),oRM 39 38,rM 41 0 39 true,rM 42 9 39 true,rW 43 (.indexAddr 2 (.t 41) (.t 42)) 39 true,rL 44 2 43 39 true,rL 45 2 4 39 true,rM 40 2 39 true,gW 46 (.call (.t 40) [.t 44,.t 45]) 39 true,oRM 35 9,⟨(some 47),.arith .eql (.t 46) (oI 0),(some (39,true)),.read,1,false⟩,nK 48 (.pick (.t 39) (.t 47) (oB false)) .read 1,nK 6 (.move (.t 35)) .read 1,nK 7 (.move (.t 48)) .read 1])
 .ret)
def AA:aS:={ntmps:=49,results:=[.t 6,.t 7],mode:=.pure,body :=
 (oQ [oW 4 (.box 45 2 (.t 1)),oW 6 (.move (oI 0)),oW 7 (.move (oB false))]
 (oQ [oM 12 0,oW 13 (.len 1 (.t 12)),oM 8 13]
 (oQ [oM 14 8,oW 9 (.move (oI 0)),oM 10 14]
 (.seq (.block 0 (.loop B4))
 Oq))))}
theorem c276:aH Tryz.prog Tryz.f276 .pure=some AA:=by kernel_rfl
def Oo:aM :=
 (oQ [oW 9 (.arith .lss (.t 8) (.t 7))]
 (.seq (.cond (.t 9) .skip (.exit 0))
 (.seq (.block 1 (oQ [oM 10 8,oM 5 10]
 (oQ [oM 11 1,oM 12 0,oM 13 5,oW 14 (.indexAddr 1 (.t 12) (.t 13)),oD 15 14,oW 16 (.arith .eql (.t 11) (.t 15))]
 (.cond (.t 16) (oQ [oM 17 5,oM 4 17]
 .ret) .skip))))
 (.region [oW 18 (.arith .add (.t 8) (oI 1)),oM 8 18]))))
def B3:aM :=
 (oQ [oW 4 (.move (oI (-1)))]
 .ret)
def Z9:aS:={ntmps:=19,results:=[.t 4],mode:=.pure,body :=
 (oQ [oW 4 (.move (oI 0))]
 (.seq (oQ [oM 6 0,oW 7 (.len 1 (.t 6)),oW 8 (.move (oI 0))]
 (.block 0 (.loop Oo)))
 B3))}
theorem c277:aH Tryz.prog Tryz.f277 .pure=some Z9:=by kernel_rfl
def Fe:aS:={ntmps:=45,results:=[.t 4],mode:=.pure,body :=
 (oQ [oW 2 (.box 94 5 (.t 0)),oW 3 (.box 94 5 (.t 1)),oW 4 (.move (oB false))]
 (.seq (oQ [oA 5 1 3,oD 6 5]
 (.block 0 (oQ [oW 8 (.arith .eql (.t 6) (oI 1)),oM 7 8]
 (.cond (.t 7) (oQ [oA 9 1 2,oD 10 9,oW 11 (.arith .eql (.t 10) (oI 1)),oM 12 11,gA 13 2 2 12 true,gD 14 13 12 true,gA 15 2 3 12 true,gD 16 15 12 true,gW 17 (.arith .leq (.t 14) (.t 16)) 12 true,oW 18 (.pick (.t 12) (.t 17) (oB false)),oM 19 18,gA 20 3 3 19 true,gD 21 20 19 true,gA 22 3 2 19 true,gD 23 22 19 true,gW 24 (.arith .leq (.t 21) (.t 23)) 19 true,oW 25 (.pick (.t 19) (.t 24) (oB false)),oM 4 25]
 .ret) (oQ [oW 27 (.arith .eql (.t 6) (oI 3)),oM 26 27]
 (.cond (.t 26) (oQ [oA 28 1 2,oD 29 28,oW 30 (.arith .eql (.t 29) (oI 3)),oM 31 30,gA 32 4 3 31 true,gD 33 32 31 true,gA 34 4 2 31 true,gD 35 34 31 true,gW 36 (.call (oF 314) [.t 33,.t 35]) 31 true,oW 37 (.pick (.t 31) (.t 36) (oB false)),oM 4 37]
 .ret) (oQ [oW 39 (.arith .eql (.t 6) (oI 2)),oM 38 39]
 (.cond (.t 38) (.seq (.draw [oRL 40 5 2,oRA 41 4 3,oRD 42 41,nK 43 (.call (oF 315) [.t 42]) .create 0,nK 44 (.call (oF 302) [.t 40,.t 43]) .write 1,nK 4 (.move (.t 44)) .read 2])
 .ret) .skip))))))))
 (oQ [oW 4 (.move (oB false))]
 .ret)))}
theorem c278:aH Tryz.prog Tryz.f278 .pure=some Fe:=by kernel_rfl
def ZF:aS:={ntmps:=8,results:=[.t 3],mode:=.full,body :=
 (oQ [oW 2 (.box 68 4 (.t 0)),oW 3 (.move (oB false))]
 (oQ [oA 4 0 2,oL 5 2 4,oL 6 2 1,oW 7 (.eqa false [1,1] (.t 5) (.t 6)),oM 3 7]
 .ret))}
theorem c279:aH Tryz.prog Tryz.f279 .full=some ZF:=by kernel_rfl
def On:aS:={ntmps:=48,results:=[.t 4],mode:=.pure,body :=
 (oQ [oW 2 (.box 94 5 (.t 0)),oW 3 (.box 184 3 (.t 1)),oW 4 (.move (oB false))]
 (.seq (oQ [oA 5 1 2,oD 6 5]
 (.block 0 (oQ [oW 8 (.arith .eql (.t 6) (oI 1)),oM 7 8]
 (.cond (.t 7) (oQ [oA 9 0 3,oD 10 9,oW 11 (.un .not (.t 10)),oM 12 11,gA 13 2 2 12 true,gD 14 13 12 true,gA 15 1 3 12 true,gD 16 15 12 true,gW 17 (.arith .leq (.t 14) (.t 16)) 12 true,oW 18 (.pick (.t 12) (.t 17) (oB false)),oM 19 18,gA 20 1 3 19 true,gD 21 20 19 true,gA 22 3 2 19 true,gD 23 22 19 true,gW 24 (.arith .leq (.t 21) (.t 23)) 19 true,oW 25 (.pick (.t 19) (.t 24) (oB false)),oM 4 25]
 .ret) (oQ [oW 27 (.arith .eql (.t 6) (oI 2)),oM 26 27]
 (.cond (.t 26) (oQ [oA 28 0 3,oD 29 28,oM 30 29,gA 31 2 3 30 true,gD 32 31 30 true,gA 33 4 2 30 true,gD 34 33 30 true,gW 35 (.arith .eql (.t 32) (.t 34)) 30 true,oW 36 (.pick (.t 30) (.t 35) (oB false)),oM 4 36]
 .ret) (oQ [oW 38 (.arith .eql (.t 6) (oI 3)),oM 37 38]
 (.cond (.t 37) (oQ [oA 39 0 3,oD 40 39,oM 41 40,gA 42 2 3 41 true,gD 43 42 41 true,gA 44 4 2 41 true,gD 45 44 41 true,gW 46 (.call (oF 314) [.t 43,.t 45]) 41 true,oW 47 (.pick (.t 41) (.t 46) (oB false)),oM 4 47]
 .ret) .skip))))))))
 (oQ [oW 4 (.move (oB false))]
 .ret)))}
theorem c302:aH Tryz.prog Tryz.f302 .pure=some On:=by kernel_rfl
def B2:aS:={ntmps:=18,results:=[.t 4],mode:=.pure,body :=
 (oQ [oW 4 (.move (oB false))]
 (oQ [oM 5 0,oW 6 (.len 0 (.t 5)),oM 7 1,oW 8 (.len 0 (.t 7)),oW 9 (.arith .geq (.t 6) (.t 8)),oM 10 9,gM 11 0 10 true,gM 12 1 10 true,gW 13 (.len 0 (.t 12)) 10 true,gW 14 (.sliceStr (.t 11) none (some (.t 13))) 10 true,gM 15 1 10 true,gW 16 (.arith .eql (.t 14) (.t 15)) 10 true,oW 17 (.pick (.t 10) (.t 16) (oB false)),oM 4 17]
 .ret))}
theorem c308:aH Tryz.prog Tryz.f308 .pure=some B2:=by kernel_rfl
def Fd:aS:={ntmps:=50,results:=[.t 4],mode:=.pure,body :=
 (oQ [oW 2 (.box 94 5 (.t 0)),oW 3 (.box 94 5 (.t 1)),oW 4 (.move (oB false))]
 (.seq (.block 0 (oQ [oA 6 1 2,oD 7 6,oW 8 (.arith .eql (.t 7) (oI 1)),oM 5 8]
 (.cond (.t 5) (oQ [oA 9 1 3,oD 10 9,oW 11 (.arith .eql (.t 10) (oI 1)),oM 12 11,gA 13 2 2 12 true,gD 14 13 12 true,gA 15 2 3 12 true,gD 16 15 12 true,gW 17 (.arith .geq (.t 14) (.t 16)) 12 true,oW 18 (.pick (.t 12) (.t 17) (oB false)),oM 19 18,gA 20 3 2 19 true,gD 21 20 19 true,gA 22 3 3 19 true,gD 23 22 19 true,gW 24 (.arith .leq (.t 21) (.t 23)) 19 true,oW 25 (.pick (.t 19) (.t 24) (oB false)),oM 4 25]
 .ret) (oQ [oA 27 1 3,oD 28 27,oW 29 (.arith .eql (.t 28) (oI 2)),oM 26 29]
 (.cond (.t 26) (oQ [oA 30 1 2,oD 31 30,oW 32 (.arith .eql (.t 31) (oI 2)),oM 33 32,gA 34 4 2 33 true,gD 35 34 33 true,gA 36 4 3 33 true,gD 37 36 33 true,gW 38 (.arith .eql (.t 35) (.t 37)) 33 true,oW 39 (.pick (.t 33) (.t 38) (oB false)),oM 4 39]
 .ret) .skip)))))
 (oQ [oA 40 1 3,oD 41 40,oW 42 (.arith .eql (.t 41) (oI 3)),oM 43 42,gA 44 4 2 43 true,gD 45 44 43 true,gA 46 4 3 43 true,gD 47 46 43 true,gW 48 (.call (oF 308) [.t 45,.t 47]) 43 true,oW 49 (.pick (.t 43) (.t 48) (oB false)),oM 4 49]
 .ret)))}
theorem c309:aH Tryz.prog Tryz.f309 .pure=some Fd:=by kernel_rfl
def Z8:aS:={ntmps:=8,results:=[.t 4],mode:=.pure,body :=
 (oQ [oW 4 (.move (oB false))]
 (oQ [oM 5 0,oM 6 1,oW 7 (.call (oF 332) [.t 5,.t 6]),oM 4 7]
 .ret))}
theorem c314:aH Tryz.prog Tryz.f314 .pure=some Z8:=by kernel_rfl
def Z7:aS:={ntmps:=5,results:=[(.cell 2 (some 3))],mode:=.pure,body :=
 (oQ [oW 2 (.alloc 184 3 (.agg [.bool false,.int .i64 0,.str []]))]
 (oQ [oM 3 0,oW 4 (.build [.bool false,.int .i64 0,.str []] [(0,1,oB true),(2,1,.t 3)]),oS 3 2 4]
 .ret))}
theorem c315:aH Tryz.prog Tryz.f315 .pure=some Z7:=by kernel_rfl
def B1:aS:={ntmps:=18,results:=[.t 4],mode:=.pure,body :=
 (oQ [oW 4 (.move (oB false))]
 (oQ [oM 5 0,oW 6 (.len 0 (.t 5)),oM 7 1,oW 8 (.len 0 (.t 7)),oW 9 (.arith .geq (.t 6) (.t 8)),oM 10 9,gM 11 0 10 true,gM 12 1 10 true,gW 13 (.len 0 (.t 12)) 10 true,gW 14 (.sliceStr (.t 11) none (some (.t 13))) 10 true,gM 15 1 10 true,gW 16 (.arith .eql (.t 14) (.t 15)) 10 true,oW 17 (.pick (.t 10) (.t 16) (oB false)),oM 4 17]
 .ret))}
theorem c332:aH Tryz.prog Tryz.f332 .pure=some B1:=by kernel_rfl
end Go.Dm.Tc
