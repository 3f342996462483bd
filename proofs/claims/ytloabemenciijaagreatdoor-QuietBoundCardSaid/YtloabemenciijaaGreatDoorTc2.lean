/- A part of the proof. -/
import Derived.Test.YtloabemenciijaaGreatDoorTc0
import Derived.Test.YtloabemenciijaaGreatDoorMm4
import Derived.Test.YtloabemenciijaaGreatDoorRows
import Derived.KernelRfl
namespace Go.Dm.Tc
open Go.Proofs
def HC:aG :=
 (.seq (oQ [oM 29 5,oM 30 4,oW 31 (.len 1 (.t 30)),oW 32 (.arith .lss (.t 29) (.t 31))]
 (.cond (.t 32) .skip (.exit 2)))
 (.seq (.block 3 (.seq (.draw [oRM 35 4,oRM 36 5,oR 37 (.indexAddr 1 (.t 35) (.t 36)),oRD 38 37,oRM 39 4,oRM 40 5,oR 41 (.arith .sub (.t 40) (oI 1)),oR 42 (.indexAddr 1 (.t 39) (.t 41)),oRD 43 42,oR 44 (.arith .neq (.t 38) (.t 43))])
 (.cond (.t 44) (oQ [oM 45 0,oM 46 3,oM 47 4,oM 48 5,oW 49 (.indexAddr 1 (.t 47) (.t 48)),oD 50 49,oW 51 (.indexAddr 1 (.t 45) (.t 46)),oS 1 51 50]
 (.region [oM 52 3,oW 53 (.arith .add (.t 52) (oI 1)),oM 3 53])) .skip)))
 (.region [oM 33 5,oW 34 (.arith .add (.t 33) (oI 1)),oM 5 34])))
def HF:aG :=
 (oQ [oM 54 0,oM 55 3,oW 56 (.sliceSl 1 (.t 54) (some (.t 55)) none),oZ (.clear 1 (.int .i64 0) (.t 56))]
 (oQ [oM 57 0,oM 58 3,oW 59 (.sliceSl 1 (.t 57) none (some (.t 58))),oM 2 59]
 .ret))
def HE:aG :=
 (.region [oM 14 3,oW 15 (.arith .add (.t 14) (oI 1)),oM 3 15])
def HB:aG :=
 (.seq (oQ [oM 10 3,oM 11 0,oW 12 (.len 1 (.t 11)),oW 13 (.arith .lss (.t 10) (.t 12))]
 (.cond (.t 13) .skip (.exit 0)))
 (.seq (.block 1 (.seq (.draw [oRM 16 0,oRM 17 3,oR 18 (.indexAddr 1 (.t 16) (.t 17)),oRD 19 18,oRM 20 0,oRM 21 3,oR 22 (.arith .sub (.t 21) (oI 1)),oR 23 (.indexAddr 1 (.t 20) (.t 22)),oRD 24 23,oR 25 (.arith .eql (.t 19) (.t 24))])
 (.cond (.t 25) (oQ [oM 26 0,oM 27 3,oW 28 (.sliceSl 1 (.t 26) (some (.t 27)) none),oM 4 28]
 (.seq (oQ [oW 5 (.move (oI 1))]
 (.block 2 (.loop HC)))
 HF)) .skip)))
 HE))
def HD:aG :=
 (oQ [oM 60 0,oM 2 60]
 .ret)
def QE:aD:={ntmps:=61,results:=[.t 2],mode:=.full,body :=
 (oQ [oW 2 (.move (.c .nsl))]
 (.seq (oQ [oM 6 0,oW 7 (.len 1 (.t 6)),oW 8 (.arith .lss (.t 7) (oI 2))]
 (.cond (.t 8) (oQ [oM 9 0,oM 2 9]
 .ret) .skip))
 (.seq (oQ [oW 3 (.move (oI 1))]
 (.block 0 (.loop HB)))
 HD)))}
theorem ZF:aB Tryz.prog Tryz.f179 .full=some QE:=by kernel_rfl
def QD:aD:={ntmps:=44,results:=[(.cell 4 (some 6)),.t 5],mode:=.frz,body :=
 (oQ [oW 2 (.box 37 6 (.t 0)),oW 3 (.box 86 4 (.t 1)),oW 4 (.alloc 37 6 (.agg [.int .i64 0,.nsl,.nsl,.nsl,.nsl,.nsl])),oW 5 (.move (oB false))]
 (oQ [oL 10 6 2,oW 11 (.call (oF 245) [.t 10]),oS 6 2 11]
 (oQ [oL 13 6 2,oA 14 0 3,oL 15 2 14,oW 16 (.call (oF 199) [.t 13,.t 15]),oM 12 16,oX 17 12 0,oX 18 12 1,oM 6 17,oM 7 18]
 (.seq (oQ [oM 19 7]
 (.cond (.t 19) (oQ [oL 20 6 2,oS 6 4 20,oW 5 (.move (oB false))]
 .ret) .skip))
 (oQ [oL 22 6 2,oA 23 0 3,oL 24 2 23,oW 25 (.call (oF 146) [.t 22,.t 24]),oM 21 25,oX 26 21 0,oX 27 21 1,oM 8 26,oM 9 27]
 (oQ [oA 28 2 2,oD 29 28,oM 30 8,oL 31 4 3,oW 32 (.buildSlice 86 4 (.agg [.int .i64 0,.int .i64 0,.nsl,.int .i64 0]) 1 [(0,.t 31)]),oW 33 (.call (oF 246) [.t 29,.t 30,.t 32]),oA 34 2 2,oS 1 34 33]
 (oQ [oA 35 3 2,oD 36 35,oM 37 6,oA 38 0 3,oL 39 2 38,oW 40 (.buildSlice 45 2 (.agg [.int .i64 0,.int .i64 0]) 1 [(0,.t 39)]),oW 41 (.call (oF 247) [.t 36,.t 37,.t 40]),oA 42 3 2,oS 1 42 41]
 (oQ [oL 43 6 2,oS 6 4 43,oW 5 (.move (oB true))]
 .ret))))))))}
theorem ZE:aB Tryz.prog Tryz.f180 .frz=some QD:=by kernel_rfl
def GZ:aG :=
 (oQ [oW 14 (.arith .lss (.t 13) (.t 12))]
 (.seq (.cond (.t 14) .skip (.exit 0))
 (.seq (.block 1 (oQ [oW 15 (.indexAddr 1 (.t 11) (.t 13)),oD 16 15,oM 9 16]
 (oQ [oM 17 9,oM 18 1,oW 19 (.arith .neq (.t 17) (.t 18))]
 (.cond (.t 19) (.region [oM 20 7,oM 21 9,oL 22 7 5,oW 23 (.build [.int .i64 0,.int .i64 0,.int .i64 0,.int .i64 0,.int .i64 0,.int .i64 0,.nsl,.nsl] [(0,1,.t 21),(1,7,.t 22)]),oW 24 (.buildSlice 168 8 (.agg [.int .i64 0,.int .i64 0,.int .i64 0,.int .i64 0,.int .i64 0,.int .i64 0,.nsl,.nsl]) 1 [(0,.t 23)]),oW 25 (.append 168 8 96 (.t 20) (.t 24)),oM 7 25]) .skip))))
 (.region [oW 26 (.arith .add (.t 13) (oI 1)),oM 13 26]))))
def HA:aG :=
 (oQ [oM 27 7,oM 6 27]
 .ret)
def QC:aD:={ntmps:=28,results:=[.t 6],mode:=.full,body :=
 (oQ [oW 3 (.box 37 6 (.t 0)),oW 5 (.box 49 7 (.t 2)),oW 6 (.move (.c .nsl))]
 (oQ [oW 7 (.move (.c .nsl))]
 (.seq (oQ [oA 10 1 3,oD 11 10,oW 12 (.len 1 (.t 11)),oW 13 (.move (oI 0))]
 (.block 0 (.loop GZ)))
 HA)))}
theorem ZD:aB Tryz.prog Tryz.f181 .full=some QC:=by kernel_rfl
def QB:aD:={ntmps:=14,results:=[.t 4],mode:=.pure,body :=
 (oQ [oW 4 (.move (oB false))]
 (oQ [oM 8 0,oM 9 1,oW 10 (.call (oF 248) [.t 8,.t 9]),oM 7 10,oX 11 7 0,oX 12 7 1,oM 5 11,oM 6 12]
 (oQ [oM 13 6,oM 4 13]
 .ret)))}
theorem ZC:aB Tryz.prog Tryz.f182 .pure=some QB:=by kernel_rfl
def QA:aD:={ntmps:=73,results:=[(.cell 4 (some 6)),.t 5],mode:=.frz,body :=
 (oQ [oW 2 (.box 37 6 (.t 0)),oW 3 (.box 88 7 (.t 1)),oW 4 (.alloc 37 6 (.agg [.int .i64 0,.nsl,.nsl,.nsl,.nsl,.nsl])),oW 5 (.move (oB false))]
 (oQ [oA 11 4 2,oD 12 11,oW 13 (.call (oF 151) [.t 12]),oA 14 4 2,oS 1 14 13]
 (oQ [oL 16 6 2,oA 17 0 3,oL 18 2 17,oW 19 (.call (oF 49) [.t 16,.t 18]),oM 15 19,oX 20 15 0,oX 21 15 1,oW 6 (.alloc 86 4 (.agg [.int .i64 0,.int .i64 0,.nsl,.int .i64 0])),oS 4 6 20,oM 7 21]
 (oQ [oL 23 6 2,oA 24 0 3,oL 25 2 24,oA 26 2 3,oL 27 2 26,oW 28 (.call (oF 249) [.t 23,.t 25,.t 27]),oM 22 28,oX 29 22 0,oX 30 22 1,oM 8 29,oM 9 30]
 (oQ [oA 31 3 6,oD 32 31,oW 33 (.arith .eql (.t 32) (oI (-1))),oM 10 33]
 (.seq (oQ [oM 34 7,oW 35 (.un .not (.t 34)),oM 36 35,gM 37 9 36 false,oW 38 (.pick (.t 36) (oB true) (.t 37)),oM 39 38,gA 40 5 3 39 false,gD 41 40 39 false,gA 42 3 6 39 false,gD 43 42 39 false,gW 44 (.arith .eql (.t 41) (.t 43)) 39 false,gM 45 44 39 false,gM 46 10 45 true,gW 47 (.un .not (.t 46)) 45 true,gW 48 (.pick (.t 45) (.t 47) (oB false)) 39 false,oW 49 (.pick (.t 39) (oB true) (.t 48))]
 (.cond (.t 49) (oQ [oL 50 6 2,oS 6 4 50,oW 5 (.move (oB false))]
 .ret) .skip))
 (oQ [oM 51 10,oW 52 (.un .not (.t 51)),oM 53 52,gL 54 6 2 53 true,gA 55 0 3 53 true,gL 56 2 55 53 true,gA 57 4 3 53 true,gD 58 57 53 true,gW 59 (.call (oF 118) [.t 54,.t 56,.t 58]) 53 true,gW 60 (.un .not (.t 59)) 53 true,oW 61 (.pick (.t 53) (.t 60) (oB false)),oA 62 6 3,oS 1 62 61]
 (oQ [oA 63 4 2,oD 64 63,oM 65 8,oL 66 7 3,oW 67 (.buildSlice 88 7 (.agg [.int .i64 0,.int .i64 0,.int .i64 0,.int .i64 0,.nsl,.int .i64 0,.bool false]) 1 [(0,.t 66)]),oW 68 (.call (oF 250) [.t 64,.t 65,.t 67]),oA 69 4 2,oS 1 69 68]
 (.seq (.draw [⟨(some 70),.load (some 6) (.t 2),none,.read,0,true⟩,oRA 71 6 3,oRD 72 71,⟨none,.store 6 (.t 4) (.t 70),none,.create,0,false⟩,nK 5 (.move (.t 72)) .read 1])
 .ret)))))))))}
theorem ZB:aB Tryz.prog Tryz.f183 .frz=some QA:=by kernel_rfl
def PZ:aD:={ntmps:=10,results:=[(.cell 2 (some 7))],mode:=.pure,body :=
 (oQ [oW 1 (.box 88 7 (.t 0)),oW 2 (.alloc 49 7 (.agg [.int .i64 0,.int .i64 0,.int .i64 0,.int .i64 0,.int .i64 0,.nsl,.nsl]))]
 (oQ [oA 3 0 1,oL 4 2 3,oA 5 2 1,oL 6 2 5,oA 7 4 1,oD 8 7,oW 9 (.build [.int .i64 0,.int .i64 0,.int .i64 0,.int .i64 0,.int .i64 0,.nsl,.nsl] [(0,1,oI 3),(1,2,.t 4),(3,2,.t 6),(5,1,.t 8)]),oS 7 2 9]
 .ret))}
theorem ZA:aB Tryz.prog Tryz.f184 .pure=some PZ:=by kernel_rfl
def PY:aD:={ntmps:=44,results:=[(.cell 6 (some 6)),.t 7],mode:=.frz,body :=
 (oQ [oW 3 (.box 37 6 (.t 0)),oW 4 (.box 45 2 (.t 1)),oW 6 (.alloc 37 6 (.agg [.int .i64 0,.nsl,.nsl,.nsl,.nsl,.nsl])),oW 7 (.move (oB false))]
 (oQ [oL 10 6 3,oW 11 (.call (oF 245) [.t 10]),oS 6 3 11]
 (oQ [oL 13 6 3,oL 14 2 4,oW 15 (.call (oF 146) [.t 13,.t 14]),oM 12 15,oX 16 12 0,oX 17 12 1,oM 8 16,oM 9 17]
 (.seq (oQ [oM 18 9,oW 19 (.un .not (.t 18)),oM 20 19,gA 21 2 3 20 false,gD 22 21 20 false,gM 23 8 20 false,gW 24 (.indexAddr 4 (.t 22) (.t 23)) 20 false,gA 25 3 24 20 false,gD 26 25 20 false,gM 27 2 20 false,gW 28 (.arith .neq (.t 26) (.t 27)) 20 false,oW 29 (.pick (.t 20) (oB true) (.t 28))]
 (.cond (.t 29) (oQ [oL 30 6 3,oS 6 6 30,oW 7 (.move (oB false))]
 .ret) .skip))
 (oQ [oA 31 2 3,oD 32 31,oM 33 8,oM 34 8,oW 35 (.arith .add (.t 34) (oI 1)),oW 36 (.call (oF 251) [.t 32,.t 33,.t 35]),oA 37 2 3,oS 1 37 36]
 (oQ [oA 38 4 3,oD 39 38,oW 40 (.makeFunc 253 [.t 4]),oW 41 (.call (oF 252) [.t 39,.t 40]),oA 42 4 3,oS 1 42 41]
 (oQ [oL 43 6 3,oS 6 6 43,oW 7 (.move (oB true))]
 .ret)))))))}
theorem YZ:aB Tryz.prog Tryz.f185 .frz=some PY:=by kernel_rfl
def PX:aD:={ntmps:=32,results:=[(.cell 4 (some 6)),.t 5],mode:=.frz,body :=
 (oQ [oW 2 (.box 37 6 (.t 0)),oW 3 (.box 88 7 (.t 1)),oW 4 (.alloc 37 6 (.agg [.int .i64 0,.nsl,.nsl,.nsl,.nsl,.nsl])),oW 5 (.move (.c .nsl))]
 (oQ [oL 10 6 2,oA 11 0 3,oL 12 2 11,oW 13 (.call (oF 49) [.t 10,.t 12]),oM 9 13,oX 14 9 0,oX 15 9 1,oW 6 (.alloc 86 4 (.agg [.int .i64 0,.int .i64 0,.nsl,.int .i64 0])),oS 4 6 14,oM 7 15]
 (oQ [oL 17 6 2,oL 18 7 3,oW 19 (.call (oF 183) [.t 17,.t 18]),oM 16 19,oX 20 16 0,oX 21 16 1,oS 6 2 20,oM 8 21]
 (.seq (oQ [oM 22 8,oW 23 (.un .not (.t 22))]
 (.cond (.t 23) (oQ [oL 24 6 2,oS 6 4 24,oW 5 (.move (.c .nsl))]
 .ret) .skip))
 (.seq (.draw [oRL 25 6 2,oRA 26 3 6,oRD 27 26,⟨(some 28),.load (some 7) (.t 3),none,.read,0,true⟩,nK 29 (.call (oF 184) [.t 28]) .create 0,⟨none,.store 6 (.t 4) (.t 25),none,.create,0,false⟩,nK 30 (.build [.int .i64 0,.int .i64 0,.int .i64 0,.int .i64 0,.int .i64 0,.int .i64 0,.nsl,.nsl] [(0,1,.t 27),(1,7,.t 29)]) .read 1,nK 31 (.buildSlice 168 8 (.agg [.int .i64 0,.int .i64 0,.int .i64 0,.int .i64 0,.int .i64 0,.int .i64 0,.nsl,.nsl]) 1 [(0,.t 30)]) .create 0,nK 5 (.move (.t 31)) .read 3])
 .ret)))))}
theorem YY:aB Tryz.prog Tryz.f186 .frz=some PX:=by kernel_rfl
def GX:aG :=
 (oQ [oW 38 (.arith .lss (.t 37) (.t 36))]
 (.seq (.cond (.t 38) .skip (.exit 0))
 (.seq (.block 1 (oQ [oW 39 (.indexAddr 7 (.t 35) (.t 37)),oL 40 7 39,oW 16 (.alloc 88 7 (.agg [.int .i64 0,.int .i64 0,.int .i64 0,.int .i64 0,.nsl,.int .i64 0,.bool false])),oS 7 16 40]
 (.draw [oRA 42 3 10,oRD 43 42,oRL 44 7 16,nK 45 (.call (oF 184) [.t 44]) .create 0,oRM 41 14,nK 46 (.build [.int .i64 0,.int .i64 0,.int .i64 0,.int .i64 0,.int .i64 0,.int .i64 0,.nsl,.nsl] [(0,1,.t 43),(1,7,.t 45)]) .read 1,nK 47 (.buildSlice 168 8 (.agg [.int .i64 0,.int .i64 0,.int .i64 0,.int .i64 0,.int .i64 0,.int .i64 0,.nsl,.nsl]) 1 [(0,.t 46)]) .create 0,nK 48 (.append 168 8 96 (.t 41) (.t 47)) .write 2,nK 14 (.move (.t 48)) .read 3])))
 (.region [oW 49 (.arith .add (.t 37) (oI 1)),oM 37 49]))))
def GY:aG :=
 (.seq (.draw [oRL 50 6 4,oRA 52 3 10,oRD 53 52,oRL 54 2 5,oRL 55 2 6,oRM 51 14,oR 56 (.build [.int .i64 0,.int .i64 0,.int .i64 0,.int .i64 0,.int .i64 0,.nsl,.nsl] [(0,1,oI 4),(1,2,.t 54),(3,2,.t 55)]),oR 57 (.build [.int .i64 0,.int .i64 0,.int .i64 0,.int .i64 0,.int .i64 0,.int .i64 0,.nsl,.nsl] [(0,1,.t 53),(1,7,.t 56)]),nK 58 (.buildSlice 168 8 (.agg [.int .i64 0,.int .i64 0,.int .i64 0,.int .i64 0,.int .i64 0,.int .i64 0,.nsl,.nsl]) 1 [(0,.t 57)]) .create 0,nK 59 (.append 168 8 96 (.t 51) (.t 58)) .create 0,⟨none,.store 6 (.t 8) (.t 50),none,.write,2,false⟩,nK 9 (.move (.t 59)) .read 3])
 .ret)
def PW:aD:={ntmps:=60,results:=[(.cell 8 (some 6)),.t 9],mode:=.frz,body :=
 (oQ [oW 4 (.box 37 6 (.t 0)),oW 5 (.box 45 2 (.t 1)),oW 6 (.box 45 2 (.t 2)),oW 8 (.alloc 37 6 (.agg [.int .i64 0,.nsl,.nsl,.nsl,.nsl,.nsl])),oW 9 (.move (.c .nsl))]
 (oQ [oL 18 6 4,oL 19 2 5,oW 20 (.call (oF 49) [.t 18,.t 19]),oM 17 20,oX 21 17 0,oX 22 17 1,oW 10 (.alloc 86 4 (.agg [.int .i64 0,.int .i64 0,.nsl,.int .i64 0])),oS 4 10 21,oM 11 22]
 (oQ [oL 24 6 4,oL 25 2 5,oL 26 2 6,oM 27 3,oW 28 (.call (oF 254) [.t 24,.t 25,.t 26,.t 27]),oM 23 28,oX 29 23 0,oX 30 23 1,oX 31 23 2,oS 6 4 29,oM 12 30,oM 13 31]
 (.seq (oQ [oM 32 13,oW 33 (.un .not (.t 32))]
 (.cond (.t 33) (oQ [oL 34 6 4,oS 6 8 34,oW 9 (.move (.c .nsl))]
 .ret) .skip))
 (oQ [oW 14 (.move (.c .nsl))]
 (.seq (oQ [oM 35 12,oW 36 (.len 1 (.t 35)),oW 37 (.move (oI 0))]
 (.block 0 (.loop GX)))
 GY))))))}
theorem YX:aB Tryz.prog Tryz.f187 .frz=some PW:=by kernel_rfl
def GV:aG :=
 (oQ [oW 15 (.arith .lss (.t 14) (.t 13))]
 (.seq (.cond (.t 15) .skip (.exit 0))
 (.seq (.block 1 (oQ [oW 16 (.indexAddr 7 (.t 12) (.t 14)),oL 17 7 16,oW 9 (.alloc 88 7 (.agg [.int .i64 0,.int .i64 0,.int .i64 0,.int .i64 0,.nsl,.int .i64 0,.bool false])),oS 7 9 17]
 (oQ [oA 18 5 9,oD 19 18,oW 20 (.arith .neq (.t 19) (oI (-1))),oM 21 20,gA 22 4 9 21 true,gD 23 22 21 true,gM 24 2 21 true,gW 25 (.call (oF 255) [.t 23,.t 24]) 21 true,oW 26 (.pick (.t 21) (.t 25) (oB false))]
 (.cond (.t 26) (.region [oM 27 7,oA 28 5 9,oD 29 28,oW 30 (.buildSlice 3 1 (.int .i64 0) 1 [(0,.t 29)]),oW 31 (.append 3 1 8 (.t 27) (.t 30)),oM 7 31]) .skip))))
 (.region [oW 32 (.arith .add (.t 14) (oI 1)),oM 14 32]))))
def GW:aG :=
 (oQ [oM 33 7,oW 34 (.call (oF 256) [.t 33]),oM 6 34]
 .ret)
def PV:aD:={ntmps:=35,results:=[.t 6],mode:=.pure,body :=
 (oQ [oW 3 (.box 37 6 (.t 0)),oW 4 (.box 45 2 (.t 1)),oW 6 (.move (.c .nsl))]
 (oQ [oW 7 (.move (.c .nsl))]
 (.seq (oQ [oL 10 6 3,oL 11 2 4,oW 12 (.call (oF 204) [.t 10,.t 11]),oW 13 (.len 1 (.t 12)),oW 14 (.move (oI 0))]
 (.block 0 (.loop GV)))
 GW)))}
theorem YW:aB Tryz.prog Tryz.f188 .pure=some PV:=by kernel_rfl
def GT:aG :=
 (oQ [oW 12 (.arith .lss (.t 11) (.t 10))]
 (.seq (.cond (.t 12) .skip (.exit 0))
 (.seq (.block 1 (oQ [oW 13 (.indexAddr 3 (.t 9) (.t 11)),oL 14 3 13,oW 7 (.alloc 151 3 (.agg [.int .i64 0,.int .i64 0,.nsl])),oS 3 7 14]
 (oQ [oA 15 2 7,oD 16 15,oM 17 1,oW 18 (.call (oF 255) [.t 16,.t 17])]
 (.cond (.t 18) (.region [oM 19 5,oA 20 0 7,oA 21 0 20,oD 22 21,oW 23 (.buildSlice 3 1 (.int .i64 0) 1 [(0,.t 22)]),oW 24 (.append 3 1 8 (.t 19) (.t 23)),oM 5 24]) .skip))))
 (.region [oW 25 (.arith .add (.t 11) (oI 1)),oM 11 25]))))
def GU:aG :=
 (oQ [oM 26 5,oW 27 (.call (oF 256) [.t 26]),oM 4 27]
 .ret)
def PU:aD:={ntmps:=28,results:=[.t 4],mode:=.pure,body :=
 (oQ [oW 2 (.box 37 6 (.t 0)),oW 4 (.move (.c .nsl))]
 (oQ [oW 5 (.move (.c .nsl))]
 (.seq (oQ [oA 8 5 2,oD 9 8,oW 10 (.len 1 (.t 9)),oW 11 (.move (oI 0))]
 (.block 0 (.loop GT)))
 GU)))}
theorem YV:aB Tryz.prog Tryz.f189 .pure=some PU:=by kernel_rfl
def PT:aD:={ntmps:=12,results:=[.t 2],mode:=.full,body :=
 (oQ [oW 2 (.move (.c (.int .u8 0)))]
 (oQ [oM 4 0,oW 5 (.call (oF 258) [.t 4,oI 1]),oM 3 5]
 (.seq (oQ [oM 6 3,oW 7 (.len 1 (.t 6)),oW 8 (.arith .eql (.t 7) (oI 0))]
 (.cond (.t 8) (oQ [oW 2 (.move (.c (.int .u8 0)))]
 .ret) .skip))
 (oQ [oM 9 3,oW 10 (.indexAddr 1 (.t 9) (oI 0)),oD 11 10,oM 2 11]
 .ret))))}
theorem YU:aB Tryz.prog Tryz.f193 .full=some PT:=by kernel_rfl
def PS:aD:={ntmps:=15,results:=[(.cell 2 (some 2))],mode:=.full,body :=
 (oQ [oW 2 (.alloc 45 2 (.agg [.int .i64 0,.int .i64 0]))]
 (oQ [oM 4 0,oW 5 (.call (oF 259) [.t 4]),oM 6 0,oW 7 (.call (oF 259) [.t 6]),oW 8 (.build [.int .i64 0,.int .i64 0] [(0,1,.t 5),(1,1,.t 7)]),oW 3 (.alloc 45 2 (.agg [.int .i64 0,.int .i64 0])),oS 2 3 8]
 (.seq (oQ [oM 9 0,oW 10 (.nilCheck (.t 9)),oA 11 1 10,oD 12 11]
 (.cond (.t 12) (oQ [oW 13 (.build [.int .i64 0,.int .i64 0] []),oS 2 2 13]
 .ret) .skip))
 (oQ [oL 14 2 3,oS 2 2 14]
 .ret))))}
theorem YT:aB Tryz.prog Tryz.f194 .full=some PS:=by kernel_rfl
def PR:aD:={ntmps:=8,results:=[.t 2],mode:=.full,body :=
 (oQ [oW 2 (.move (oB false))]
 (oQ [oM 3 0,oW 4 (.nilCheck (.t 3)),oA 5 1 4,oD 6 5,oW 7 (.un .not (.t 6)),oM 2 7]
 .ret))}
theorem YS:aB Tryz.prog Tryz.f195 .full=some PR:=by kernel_rfl
def PQ:aD:={ntmps:=23,results:=[(.cell 2 (some 5))],mode:=.full,body :=
 (oQ [oW 2 (.alloc 119 5 (.agg [.str [],.int .i64 0,.int .i64 0,.int .i64 0,.str []]))]
 (oQ [oM 4 0,oW 5 (.call (oF 260) [.t 4]),oM 6 0,oW 7 (.call (oF 193) [.t 6]),oW 8 (.conv .i64 (.t 7)),oW 9 (.build [.str [],.int .i64 0,.int .i64 0,.int .i64 0,.str []] [(0,1,.t 5),(1,1,.t 8)]),oW 3 (.alloc 119 5 (.agg [.str [],.int .i64 0,.int .i64 0,.int .i64 0,.str []])),oS 5 3 9]
 (.seq (oQ [oA 10 1 3,oD 11 10,oW 12 (.arith .eql (.t 11) (oI 1))]
 (.cond (.t 12) (.region [oM 13 0,oW 14 (.call (oF 259) [.t 13]),oM 15 0,oW 16 (.call (oF 259) [.t 15]),oA 17 2 3,oS 1 17 14,oA 18 3 3,oS 1 18 16]) (.region [oM 19 0,oW 20 (.call (oF 260) [.t 19]),oA 21 4 3,oS 1 21 20])))
 (oQ [oL 22 5 3,oS 5 2 22]
 .ret))))}
theorem YR:aB Tryz.prog Tryz.f196 .full=some PQ:=by kernel_rfl
def PP:aD:={ntmps:=24,results:=[(.cell 2 (some 4))],mode:=.full,body :=
 (oQ [oW 2 (.alloc 176 4 (.agg [.str [],.bool false,.int .i64 0,.str []]))]
 (oQ [oM 4 0,oW 5 (.call (oF 260) [.t 4]),oW 6 (.build [.str [],.bool false,.int .i64 0,.str []] [(0,1,.t 5)]),oW 3 (.alloc 176 4 (.agg [.str [],.bool false,.int .i64 0,.str []])),oS 4 3 6]
 (.seq (oQ [oM 7 0,oW 8 (.call (oF 193) [.t 7]),oW 9 (.arith .eql (.t 8) (.c (.int .u8 1))),oA 10 1 3,oA 11 0 10,oS 1 11 9]
 (oQ [oA 12 1 3,oA 13 0 12,oD 14 13]
 (.cond (.t 14) (.region [oM 15 0,oW 16 (.call (oF 260) [.t 15]),oA 17 1 3,oA 18 2 17,oS 1 18 16]) (.region [oM 19 0,oW 20 (.call (oF 259) [.t 19]),oA 21 1 3,oA 22 1 21,oS 1 22 20]))))
 (oQ [oL 23 4 3,oS 4 2 23]
 .ret))))}
theorem YQ:aB Tryz.prog Tryz.f197 .full=some PP:=by kernel_rfl
def PO:aD:={ntmps:=12,results:=[.t 4,.t 5],mode:=.pure,body :=
 (oQ [oW 2 (.box 37 6 (.t 0)),oW 3 (.box 45 2 (.t 1)),oW 4 (.move (oI 0)),oW 5 (.move (oB false))]
 (oQ [oA 6 3 2,oD 7 6,oL 8 2 3,oW 9 (.call (oF 261) [.t 7,.t 8,oF 107]),oX 10 9 0,oX 11 9 1,oM 4 10,oM 5 11]
 .ret))}
theorem YP:aB Tryz.prog Tryz.f199 .pure=some PO:=by kernel_rfl
def PN:aD:={ntmps:=9,results:=[.t 4],mode:=.pure,body :=
 (oQ [oW 4 (.move (oB false))]
 (oQ [oM 5 0,oM 6 1,oW 7 (.call (oF 262) [.t 5,.t 6]),oW 8 (.arith .geq (.t 7) (oI 0)),oM 4 8]
 .ret))}
theorem YO:aB Tryz.prog Tryz.f200 .pure=some PN:=by kernel_rfl
def PM:aD:={ntmps:=43,results:=[.t 2],mode:=.pure,body :=
 (oQ [oW 1 (.box 119 5 (.t 0)),oW 2 (.move (oB false))]
 (.seq (oQ [oA 3 0 1,oD 4 3,oW 5 (.call (oF 237) [.t 4]),oW 6 (.un .not (.t 5))]
 (.cond (.t 6) (oQ [oW 2 (.move (oB false))]
 .ret) .skip))
 (.seq (oQ [oA 7 1 1,oD 8 7]
 (.block 0 (.seq (.block 3 (.seq (.block 2 (.seq (.block 1 (.seq (.seq (oQ [oW 10 (.arith .eql (.t 8) (oI 1)),oM 9 10]
 (.cond (.t 9) (.exit 1) .skip))
 (.seq (oQ [oW 12 (.arith .eql (.t 8) (oI 3)),oM 11 12]
 (.cond (.t 11) (.exit 2) .skip))
 (oQ [oW 14 (.arith .eql (.t 8) (oI 2)),oM 13 14]
 (.cond (.t 13) (.exit 3) .skip))))
 (.exit 0)))
 (.seq (oQ [oA 15 2 1,oD 16 15,oA 17 3 1,oD 18 17,oW 19 (.arith .leq (.t 16) (.t 18)),oM 20 19,gA 21 4 1 20 true,gD 22 21 20 true,gW 23 (.arith .eql (.t 22) (.c (.str []))) 20 true,oW 24 (.pick (.t 20) (.t 23) (oB false)),oM 2 24]
 .ret)
 (.exit 0))))
 (oQ [oA 25 4 1,oD 26 25,oW 27 (.len 0 (.t 26)),oW 28 (.arith .eql (.t 27) (oI 12))]
 (.cond (.t 28) (oQ [oW 2 (.move (oB false))]
 .ret) .skip))))
 (.seq (oQ [oA 29 2 1,oD 30 29,oW 31 (.arith .eql (.t 30) (oI 0)),oM 32 31,gA 33 3 1 32 true,gD 34 33 32 true,gW 35 (.arith .eql (.t 34) (oI 0)) 32 true,oW 36 (.pick (.t 32) (.t 35) (oB false)),oM 37 36,gA 38 4 1 37 true,gD 39 38 37 true,gW 40 (.len 0 (.t 39)) 37 true,gW 41 (.arith .leq (.t 40) (oI 12)) 37 true,oW 42 (.pick (.t 37) (.t 41) (oB false)),oM 2 42]
 .ret)
 (.exit 0)))))
 (oQ [oW 2 (.move (oB false))]
 .ret))))}
theorem YN:aB Tryz.prog Tryz.f201 .pure=some PM:=by kernel_rfl
def GR:aG :=
 (oQ [oW 9 (.arith .lss (.t 8) (.t 7))]
 (.seq (.cond (.t 9) .skip (.exit 0))
 (.seq (.block 1 (oQ [oM 10 8,oM 5 10]
 (oQ [oM 11 1,oM 12 0,oM 13 5,oW 14 (.indexAddr 7 (.t 12) (.t 13)),oL 15 7 14,oW 16 (.call (.t 11) [.t 15])]
 (.cond (.t 16) (oQ [oM 17 5,oM 4 17]
 .ret) .skip))))
 (.region [oW 18 (.arith .add (.t 8) (oI 1)),oM 8 18]))))
def GS:aG :=
 (oQ [oW 4 (.move (oI (-1)))]
 .ret)
def PL:aD:={ntmps:=19,results:=[.t 4],mode:=.pure,body :=
 (oQ [oW 4 (.move (oI 0))]
 (.seq (oQ [oM 6 0,oW 7 (.len 1 (.t 6)),oW 8 (.move (oI 0))]
 (.block 0 (.loop GR)))
 GS))}
theorem YM:aB Tryz.prog Tryz.f202 .pure=some PL:=by kernel_rfl
def GP:aG :=
 (oQ [oW 12 (.arith .lss (.t 11) (.t 10))]
 (.seq (.cond (.t 12) .skip (.exit 0))
 (.seq (.block 1 (oQ [oW 13 (.indexAddr 7 (.t 9) (.t 11)),oL 14 7 13,oW 7 (.alloc 88 7 (.agg [.int .i64 0,.int .i64 0,.int .i64 0,.int .i64 0,.nsl,.int .i64 0,.bool false])),oS 7 7 14]
 (oQ [oA 15 0 7,oL 16 2 15,oL 17 2 3,oW 18 (.eqa false [1,1] (.t 16) (.t 17))]
 (.cond (.t 18) (.region [oM 19 5,oL 20 7 7,oW 21 (.buildSlice 88 7 (.agg [.int .i64 0,.int .i64 0,.int .i64 0,.int .i64 0,.nsl,.int .i64 0,.bool false]) 1 [(0,.t 20)]),oW 22 (.append 88 7 72 (.t 19) (.t 21)),oM 5 22]) .skip))))
 (.region [oW 23 (.arith .add (.t 11) (oI 1)),oM 11 23]))))
def GQ:aG :=
 (oQ [oM 24 5,oM 4 24]
 .ret)
def PJ:aD:={ntmps:=25,results:=[.t 4],mode:=.pure,body :=
 (oQ [oW 2 (.box 37 6 (.t 0)),oW 3 (.box 45 2 (.t 1)),oW 4 (.move (.c .nsl))]
 (oQ [oW 5 (.move (.c .nsl))]
 (.seq (oQ [oA 8 4 2,oD 9 8,oW 10 (.len 1 (.t 9)),oW 11 (.move (oI 0))]
 (.block 0 (.loop GP)))
 GQ)))}
theorem YL:aB Tryz.prog Tryz.f204 .pure=some PJ:=by kernel_rfl
def PI:aD:={ntmps:=12,results:=[.t 3],mode:=.pure,body :=
 (oQ [oW 2 (.box 88 7 (.t 0)),oW 3 (.move (oB false))]
 (oQ [oA 4 6 2,oD 5 4,oM 6 5,gA 7 4 2 6 true,gD 8 7 6 true,gD 9 1 6 true,gW 10 (.call (oF 206) [.t 8,.t 9]) 6 true,oW 11 (.pick (.t 6) (.t 10) (oB false)),oM 3 11]
 .ret))}
theorem YK:aB Tryz.prog Tryz.f205 .pure=some PI:=by kernel_rfl
def GM:aG :=
 (oQ [oW 16 (.arith .lss (.t 15) (.t 14))]
 (.seq (.cond (.t 16) .skip (.exit 0))
 (.seq (.block 1 (oQ [oW 17 (.indexAddr 5 (.t 13) (.t 15)),oL 18 5 17,oW 7 (.alloc 119 5 (.agg [.str [],.int .i64 0,.int .i64 0,.int .i64 0,.str []])),oS 5 7 18]
 (.region [oM 19 5,oA 20 0 7,oD 21 20,oL 22 5 7,oZ (.mapUpdate (.prim 2) (.t 19) (.t 21) (.t 22))])))
 (.region [oW 23 (.arith .add (.t 15) (oI 1)),oM 15 23]))))
def GL:aG :=
 (oQ [oW 27 (.arith .lss (.t 26) (.t 25))]
 (.seq (.cond (.t 27) .skip (.exit 2))
 (.seq (.block 3 (oQ [oW 28 (.indexAddr 5 (.t 24) (.t 26)),oL 29 5 28,oW 9 (.alloc 119 5 (.agg [.str [],.int .i64 0,.int .i64 0,.int .i64 0,.str []])),oS 5 9 29]
 (oQ [oM 31 5,oA 32 0 9,oD 33 32,oW 34 (.lookup (.prim 2) (.agg [.str [],.int .i64 0,.int .i64 0,.int .i64 0,.str []]) true (.t 31) (.t 33)),oM 30 34,oX 35 30 0,oX 36 30 1,oW 10 (.alloc 119 5 (.agg [.str [],.int .i64 0,.int .i64 0,.int .i64 0,.str []])),oS 5 10 35,oM 11 36]
 (oQ [oM 37 11,oW 38 (.un .not (.t 37)),oM 39 38,gL 40 5 9 39 false,gL 41 5 10 39 false,gW 42 (.call (oF 263) [.t 40,.t 41]) 39 false,gW 43 (.un .not (.t 42)) 39 false,oW 44 (.pick (.t 39) (oB true) (.t 43))]
 (.cond (.t 44) (oQ [oW 4 (.move (oB false))]
 .ret) .skip)))))
 (.region [oW 45 (.arith .add (.t 26) (oI 1)),oM 26 45]))))
def GO:aG :=
 (oQ [oW 4 (.move (oB true))]
 .ret)
def GN:aG :=
 (.seq (oQ [oM 24 0,oW 25 (.len 1 (.t 24)),oW 26 (.move (oI 0))]
 (.block 2 (.loop GL)))
 GO)
def PH:aD:={ntmps:=46,results:=[.t 4],mode:=.pure,body :=
 (oQ [oW 4 (.move (oB false))]
 (oQ [oW 12 (.makeMap),oM 5 12]
 (.seq (oQ [oM 13 1,oW 14 (.len 1 (.t 13)),oW 15 (.move (oI 0))]
 (.block 0 (.loop GM)))
 GN)))}
theorem YJ:aB Tryz.prog Tryz.f206 .pure=some PH:=by kernel_rfl
def PG:aD:={ntmps:=48,results:=[(.cell 4 (some 7)),.t 5],mode:=.full,body :=
 (oQ [oW 4 (.alloc 92 7 (.agg [.int .i64 0,.int .i64 0,.int .i64 0,.int .i64 0,.int .i64 0,.int .i64 0,.nsl])),oW 5 (.move (.c .nili))]
 (.seq (.block 0 (oQ [oM 7 1,oW 8 (.arith .lss (.t 7) (oI 0)),oM 9 8,gM 10 1 9 false,gM 11 0 9 false,gW 12 (.nilCheck (.t 11)) 9 false,gA 13 0 12 9 false,gD 14 13 9 false,gW 15 (.call (oF 121) [.t 14]) 9 false,gW 16 (.field 0 none (.t 15)) 9 false,gW 17 (.arith .geq (.t 10) (.t 16)) 9 false,oW 18 (.pick (.t 9) (oB true) (.t 17)),oM 6 18]
 (.cond (.t 6) (oQ [oW 19 (.build [.int .i64 0,.int .i64 0,.int .i64 0,.int .i64 0,.int .i64 0,.int .i64 0,.nsl] []),oW 20 (.makeIface 57 (oI 3)),oS 7 4 19,oM 5 20]
 .ret) (oQ [oM 22 0,oW 23 (.nilCheck (.t 22)),oA 24 1 23,oD 25 24,oW 26 (.len 1 (.t 25)),oW 27 (.arith .eql (.t 26) (oI 32)),oM 21 27]
 (.cond (.t 21) (oQ [oW 28 (.build [.int .i64 0,.int .i64 0,.int .i64 0,.int .i64 0,.int .i64 0,.int .i64 0,.nsl] []),oW 29 (.makeIface 57 (oI 7)),oS 7 4 28,oM 5 29]
 .ret) .skip)))))
 (oQ [oM 30 0,oM 31 0,oW 32 (.nilCheck (.t 31)),oA 33 1 32,oD 34 33,oM 35 1,oW 36 (.build [.int .i64 0,.nsl,.nsl,.int .i64 0,.int .i64 0,.int .i64 0] [(0,1,.t 35)]),oW 37 (.buildSlice 371 6 (.agg [.int .i64 0,.nsl,.nsl,.int .i64 0,.int .i64 0,.int .i64 0]) 1 [(0,.t 36)]),oW 38 (.append 371 6 80 (.t 34) (.t 37)),oW 39 (.nilCheck (.t 30)),oA 40 1 39,oS 1 40 38]
 (oQ [oM 41 0,oW 42 (.nilCheck (.t 41)),oA 43 1 42,oD 44 43,oW 45 (.len 1 (.t 44)),oW 46 (.arith .sub (.t 45) (oI 1)),oW 47 (.build [.int .i64 0,.int .i64 0,.int .i64 0,.int .i64 0,.int .i64 0,.int .i64 0,.nsl] [(1,1,.t 46)]),oS 7 4 47,oW 5 (.move (.c .nili))]
 .ret))))}
theorem YI:aB Tryz.prog Tryz.f213 .full=some PG:=by kernel_rfl
def PF:aD:={ntmps:=60,results:=[(.cell 4 (some 7)),.t 5],mode:=.full,body :=
 (oQ [oW 3 (.box 95 9 (.t 1)),oW 4 (.alloc 92 7 (.agg [.int .i64 0,.int .i64 0,.int .i64 0,.int .i64 0,.int .i64 0,.int .i64 0,.nsl])),oW 5 (.move (.c .nili))]
 (.seq (.seq (.draw [oRM 10 0,oR 11 (.nilCheck (.t 10)),oRA 12 0 11,oRD 13 12,nK 14 (.call (oF 121) [.t 13]) .create 0,oRA 15 4 3,oRD 16 15,oRA 17 5 3,oRD 18 17,nK 19 (.call (oF 265) [.t 14,.t 16,.t 18]) .write 1,nK 20 (.un .not (.t 19)) .read 2])
 (.cond (.t 20) (oQ [oW 21 (.build [.int .i64 0,.int .i64 0,.int .i64 0,.int .i64 0,.int .i64 0,.int .i64 0,.nsl] []),oW 22 (.makeIface 57 (oI 8)),oS 7 4 21,oM 5 22]
 .ret) .skip))
 (.seq (oQ [oA 23 0 3,oD 24 23,oW 25 (.arith .eql (.t 24) (oI 9))]
 (.cond (.t 25) (.seq (oQ [oA 27 8 3,oD 28 27,oW 29 (.call (oF 28) [.t 28]),oM 26 29,oX 30 26 0,oX 31 26 1,oW 6 (.alloc 49 7 (.agg [.int .i64 0,.int .i64 0,.int .i64 0,.int .i64 0,.int .i64 0,.nsl,.nsl])),oS 7 6 30,oM 7 31]
 (oQ [oM 32 7,oW 33 (.eqn 4 true (.t 32) (.c .nili))]
 (.cond (.t 33) (oQ [oW 34 (.build [.int .i64 0,.int .i64 0,.int .i64 0,.int .i64 0,.int .i64 0,.int .i64 0,.nsl] []),oM 35 7,oS 7 4 34,oM 5 35]
 .ret) .skip)))
 (oQ [oW 36 (.build [.int .i64 0,.int .i64 0,.int .i64 0,.int .i64 0,.int .i64 0,.int .i64 0,.nsl] []),oW 37 (.makeIface 57 (oI 6)),oS 7 4 36,oM 5 37]
 .ret)) .skip))
 (.seq (.draw [oRM 39 0,oR 40 (.nilCheck (.t 39)),oRA 41 0 40,oRD 42 41,oRA 43 4 3,oRD 44 43,oRA 45 5 3,oRD 46 45,oW 47 (.call (oF 48) [.t 42,.t 44,.t 46]),nK 38 (.move (.t 47)) .read 1,nK 48 (.extract (.t 38) 0) .read 1,nK 49 (.extract (.t 38) 1) .read 1,nK 8 (.move (.t 48)) .read 1,nK 9 (.move (.t 49)) .read 1])
 (.seq (oQ [oM 50 9,oW 51 (.eqn 4 false (.t 50) (.c .nili))]
 (.cond (.t 51) (.region [oM 52 0,oW 53 (.nilCheck (.t 52)),oA 54 2 53,oD 55 54,oM 56 8,oW 57 (.call (oF 273) [.t 55,.t 56])]) .skip))
 (oQ [oW 58 (.build [.int .i64 0,.int .i64 0,.int .i64 0,.int .i64 0,.int .i64 0,.int .i64 0,.nsl] []),oM 59 9,oS 7 4 58,oM 5 59]
 .ret))))))}
theorem YH:aB Tryz.prog Tryz.f214 .full=some PF:=by kernel_rfl
def PE:aD:={ntmps:=64,results:=[(.cell 4 (some 7)),.t 5],mode:=.full,body :=
 (oQ [oW 3 (.box 95 9 (.t 1)),oW 4 (.alloc 92 7 (.agg [.int .i64 0,.int .i64 0,.int .i64 0,.int .i64 0,.int .i64 0,.int .i64 0,.nsl])),oW 5 (.move (.c .nili))]
 (.seq (.block 0 (oQ [oM 9 0,oA 10 1 3,oD 11 10,oW 12 (.call (oF 274) [.t 9,.t 11]),oW 13 (.un .not (.t 12)),oM 8 13]
 (.cond (.t 8) (oQ [oW 14 (.build [.int .i64 0,.int .i64 0,.int .i64 0,.int .i64 0,.int .i64 0,.int .i64 0,.nsl] []),oW 15 (.makeIface 57 (oI 3)),oS 7 4 14,oM 5 15]
 .ret) (oQ [oA 17 0 3,oD 18 17,oW 19 (.arith .eql (.t 18) (oI 7)),oM 16 19]
 (.cond (.t 16) (.seq (.draw [oRM 20 0,oR 21 (.nilCheck (.t 20)),oRA 22 2 21,oRD 23 22,oRA 24 1 3,oRD 25 24,oW 26 (.call (oF 275) [.t 23,.t 25]),nK 27 (.build [.int .i64 0,.int .i64 0,.int .i64 0,.int .i64 0,.int .i64 0,.int .i64 0,.nsl] [(6,1,.t 26)]) .read 1,⟨none,.store 7 (.t 4) (.t 27),none,.write,1,false⟩,nK 5 (.move (.c .nili)) .read 2])
 .ret) .skip)))))
 (.seq (.draw [oRM 29 0,oR 30 (.nilCheck (.t 29)),oRA 31 1 30,oRD 32 31,oRA 33 1 3,oRD 34 33,oR 35 (.indexAddr 6 (.t 32) (.t 34)),oRL 36 6 35,oRL 37 9 3,oW 38 (.call (oF 276) [.t 36,.t 37]),nK 28 (.move (.t 38)) .read 1,nK 39 (.extract (.t 28) 0) .read 1,nK 40 (.extract (.t 28) 1) .read 1,nK 6 (.move (.t 39)) .read 1,nK 7 (.move (.t 40)) .read 1])
 (.seq (.block 1 (oQ [oM 42 7,oW 43 (.eqn 4 true (.t 42) (.c .nili)),oM 41 43]
 (.cond (.t 41) (oQ [oW 44 (.build [.int .i64 0,.int .i64 0,.int .i64 0,.int .i64 0,.int .i64 0,.int .i64 0,.nsl] []),oM 45 7,oS 7 4 44,oM 5 45]
 .ret) (oQ [oM 47 0,oW 48 (.nilCheck (.t 47)),oA 49 3 48,oD 50 49,oW 51 (.arith .eql (.t 50) (oI 400)),oM 46 51]
 (.cond (.t 46) (oQ [oW 52 (.build [.int .i64 0,.int .i64 0,.int .i64 0,.int .i64 0,.int .i64 0,.int .i64 0,.nsl] []),oW 53 (.makeIface 57 (oI 7)),oS 7 4 52,oM 5 53]
 .ret) .skip)))))
 (oQ [oA 54 7 3,oD 55 54,oW 56 (.call (oF 277) [.t 55]),oA 57 7 3,oS 1 57 56]
 (oQ [oM 58 0,oL 59 9 3,oM 60 6,oW 61 (.call (oF 278) [.t 58,.t 59,.t 60]),oX 62 61 0,oX 63 61 1,oS 7 4 62,oM 5 63]
 .ret))))))}
theorem YG:aB Tryz.prog Tryz.f215 .full=some PE:=by kernel_rfl
def PD:aD:={ntmps:=18,results:=[.t 6],mode:=.pure,body :=
 (oQ [oW 6 (.move (oI 0))]
 (.seq (oQ [oM 7 1,oM 8 0,oW 9 (.len 1 (.t 8)),oW 10 (.arith .geq (.t 7) (.t 9))]
 (.cond (.t 10) (oQ [oW 6 (.move (oI 0))]
 .ret) .skip))
 (oQ [oM 11 0,oM 12 1,oW 13 (.indexAddr 1 (.t 11) (.t 12)),oD 14 13,oW 15 (.minmax true (.t 14) (oI 0)),oM 16 2,oW 17 (.arith .rem (.t 15) (.t 16)),oM 6 17]
 .ret)))}
theorem YF:aB Tryz.prog Tryz.f216 .pure=some PD:=by kernel_rfl
def Vv:aD:={ntmps:=13,results:=[.t 4],mode:=.pure,body :=
 (oQ [oW 2 (.box 79 2 (.t 0)),oW 4 (.move (oB false))]
 (oQ [oM 5 1,oW 6 (.arith .geq (.t 5) (oI 0)),oM 7 6,gM 8 1 7 true,gA 9 0 2 7 true,gD 10 9 7 true,gW 11 (.arith .lss (.t 8) (.t 10)) 7 true,oW 12 (.pick (.t 7) (.t 11) (oB false)),oM 4 12]
 .ret))}
theorem YE:aB Tryz.prog Tryz.f217 .pure=some Vv:=by kernel_rfl
def vL:aD:={ntmps:=6,results:=[.t 2],mode:=.pure,body :=
 (oQ [oW 2 (.move (oB false))]
 (oQ [oM 3 0,oM 4 0,oW 5 (.arith .neq (.t 3) (.t 4)),oM 2 5]
 .ret))}
theorem KJ:aB Tryz.prog Tryz.f220 .pure=some vL:=by kernel_rfl
def PC:aD:={ntmps:=14,results:=[(.cell 2 (some 2))],mode:=.pure,body :=
 (oQ [oW 1 (.box 90 2 (.t 0)),oW 2 (.alloc 90 2 (.agg [.int .i64 0,.int .i64 0]))]
 (oQ [oW 3 (.indexArr 2 1 (.t 1) (oI 0)),oD 4 3,oW 5 (.indexArr 2 1 (.t 1) (oI 1)),oD 6 5,oW 7 (.minmax false (.t 4) (.t 6)),oW 8 (.indexArr 2 1 (.t 1) (oI 0)),oD 9 8,oW 10 (.indexArr 2 1 (.t 1) (oI 1)),oD 11 10,oW 12 (.minmax true (.t 9) (.t 11)),oW 13 (.build [.int .i64 0,.int .i64 0] [(0,1,.t 7),(1,1,.t 12)]),oS 2 2 13]
 .ret))}
theorem YD:aB Tryz.prog Tryz.f221 .pure=some PC:=by kernel_rfl
def GI:aG :=
 (oQ [oW 28 (.arith .lss (.t 27) (.t 26))]
 (.seq (.cond (.t 28) .skip (.exit 2))
 (.seq (.block 3 (oQ [oW 29 (.indexAddr 1 (.t 25) (.t 27)),oD 30 29,oM 8 30]
 (oQ [oM 32 5,oM 33 8,oW 34 (.lookup (.prim 1) (.int .i64 0) true (.t 32) (.t 33)),oM 31 34,oX 35 31 0,oX 36 31 1,oM 9 35,oM 10 36]
 (oQ [oM 37 10,oW 38 (.un .not (.t 37))]
 (.cond (.t 38) (oQ [oM 39 5,oM 40 8,oM 41 5,oM 42 6,oW 43 (.indexAddr 1 (.t 42) (oI 0)),oD 44 43,oW 45 (.lookup (.prim 1) (.int .i64 0) false (.t 41) (.t 44)),oW 46 (.arith .add (.t 45) (oI 1)),oZ (.mapUpdate (.prim 1) (.t 39) (.t 40) (.t 46))]
 (.region [oM 47 6,oM 48 8,oW 49 (.buildSlice 3 1 (.int .i64 0) 1 [(0,.t 48)]),oW 50 (.append 3 1 8 (.t 47) (.t 49)),oM 6 50])) .skip)))))
 (.region [oW 51 (.arith .add (.t 27) (oI 1)),oM 27 51]))))
def GK:aG :=
 (.region [oM 19 6,oW 20 (.sliceSl 1 (.t 19) (some (oI 1)) none),oM 6 20])
def GH:aG :=
 (.seq (oQ [oM 16 6,oW 17 (.len 1 (.t 16)),oW 18 (.arith .gtr (.t 17) (oI 0))]
 (.cond (.t 18) .skip (.exit 0)))
 (.seq (.block 1 (.seq (.draw [oRL 21 2 2,oRM 22 6,oR 23 (.indexAddr 1 (.t 22) (oI 0)),oRD 24 23,oW 25 (.call (oF 137) [.t 21,.t 24]),nK 26 (.len 1 (.t 25)) .read 1,oR 27 (.move (oI 0))])
 (.block 2 (.loop GI))))
 GK))
def GJ:aG :=
 (oQ [oM 52 5,oM 4 52]
 .ret)
def PB:aD:={ntmps:=53,results:=[.t 4],mode:=.full,body :=
 (oQ [oW 2 (.box 79 2 (.t 0)),oW 4 (.move (.c .nmap))]
 (oQ [oW 11 (.makeMap),oM 12 1,oZ (.mapUpdate (.prim 1) (.t 11) (.t 12) (oI 0)),oM 13 11,oM 5 13]
 (.seq (oQ [oM 14 1,oW 15 (.buildSlice 3 1 (.int .i64 0) 1 [(0,.t 14)]),oM 6 15]
 (.block 0 (.loop GH)))
 GJ)))}
theorem YC:aB Tryz.prog Tryz.f222 .full=some PB:=by kernel_rfl
def PA:aD:={ntmps:=6,results:=[.t 2],mode:=.full,body :=
 (oQ [oW 2 (.move (.c .nili))]
 (oQ [oM 3 0,oW 4 (.makeIface 57 (oI 8)),oW 5 (.call (oF 64) [(.c (.str [113,117,101,117,101])),.t 3,.t 4]),oM 2 5]
 .ret))}
theorem YB:aB Tryz.prog Tryz.f226 .full=some PA:=by kernel_rfl
def OZ:aD:={ntmps:=34,results:=[.t 8],mode:=.full,body :=
 (oQ [oW 8 (.move (.c .nili))]
 (.seq (oQ [oM 10 0,oM 11 1,oM 12 2,oW 13 (.call (oF 289) [.t 10,.t 11,.t 12]),oW 14 (.un .not (.t 13))]
 (.cond (.t 14) (oQ [oM 15 1,oW 16 (.call (oF 226) [.t 15]),oM 8 16]
 .ret) .skip))
 (oQ [oM 17 1,oM 18 2,oW 19 (.build [.int .i64 0,.int .i64 0] [(0,1,.t 17),(1,1,.t 18)]),oW 9 (.alloc 90 2 (.agg [.int .i64 0,.int .i64 0])),oS 2 9 19]
 (.seq (.draw [oRM 20 0,oR 21 (.nilCheck (.t 20)),oRA 22 1 21,oRD 23 22,oRL 24 2 9,oRM 25 0,oR 26 (.nilCheck (.t 25)),oRA 27 1 26,oRD 28 27,oRL 29 2 9,oR 30 (.lookup (.agg [1,1]) .nsl false (.t 28) (.t 29)),oRM 31 3,nK 32 (.buildSlice 110 1 .nsl 2 [(0,.t 30),(1,.t 31)]) .create 0,nK 33 (.call (oF 290) [.t 32]) .create 0,⟨none,.mapUpdate (.agg [1,1]) (.t 23) (.t 24) (.t 33),none,.write,2,false⟩])
 (oQ [oW 8 (.move (.c .nili))]
 .ret)))))}
theorem YA:aB Tryz.prog Tryz.f227 .full=some OZ:=by kernel_rfl
def GF:aG :=
 (.seq (oQ [oM 15 9,oM 16 10,oW 17 (.arith .lss (.t 15) (.t 16))]
 (.cond (.t 17) .skip (.exit 0)))
 (.block 1 (oQ [oM 18 9,oM 19 10,oW 20 (.arith .add (.t 18) (.t 19)),oW 21 (.conv .u64 (.t 20)),oW 22 (.arith .shr (.t 21) (.c (.int .u64 1))),oW 23 (.conv .i64 (.t 22)),oM 11 23]
 (.seq (.draw [oRM 25 0,oRM 26 11,oR 27 (.indexAddr 4 (.t 25) (.t 26)),oRL 28 4 27,oRL 29 2 4,oRM 24 2,oW 30 (.call (.t 24) [.t 28,.t 29]),nK 31 (.arith .lss (.t 30) (oI 0)) .read 1])
 (.cond (.t 31) (.region [oM 32 11,oW 33 (.arith .add (.t 32) (oI 1)),oM 9 33]) (.region [oM 34 11,oM 10 34]))))))
def GG:aG :=
 (.seq (.draw [oRM 36 9,oRM 37 8,oR 38 (.arith .lss (.t 36) (.t 37)),oRM 39 38,rM 41 0 39 true,rM 42 9 39 true,rW 43 (.indexAddr 4 (.t 41) (.t 42)) 39 true,rL 44 4 43 39 true,rL 45 2 4 39 true,rM 40 2 39 true,gW 46 (.call (.t 40) [.t 44,.t 45]) 39 true,oRM 35 9,⟨(some 47),.arith .eql (.t 46) (oI 0),(some (39,true)),.read,1,false⟩,nK 48 (.pick (.t 39) (.t 47) (oB false)) .read 1,nK 6 (.move (.t 35)) .read 1,nK 7 (.move (.t 48)) .read 1])
 .ret)
def OY:aD:={ntmps:=49,results:=[.t 6,.t 7],mode:=.pure,body :=
 (oQ [oW 4 (.box 45 2 (.t 1)),oW 6 (.move (oI 0)),oW 7 (.move (oB false))]
 (oQ [oM 12 0,oW 13 (.len 1 (.t 12)),oM 8 13]
 (oQ [oM 14 8,oW 9 (.move (oI 0)),oM 10 14]
 (.seq (.block 0 (.loop GF))
 GG))))}
theorem XZ:aB Tryz.prog Tryz.f228 .pure=some OY:=by kernel_rfl
def OX:aD:={ntmps:=9,results:=[.t 4],mode:=.pure,body :=
 (oQ [oW 2 (.box 86 4 (.t 0)),oW 3 (.box 45 2 (.t 1)),oW 4 (.move (oI 0))]
 (oQ [oA 5 0 2,oL 6 2 5,oL 7 2 3,oW 8 (.call (oF 107) [.t 6,.t 7]),oM 4 8]
 .ret))}
theorem XY:aB Tryz.prog Tryz.f229 .pure=some OX:=by kernel_rfl
def OW:aD:={ntmps:=12,results:=[.t 4,.t 5],mode:=.pure,body :=
 (oQ [oW 2 (.box 37 6 (.t 0)),oW 3 (.box 45 2 (.t 1)),oW 4 (.move (oI 0)),oW 5 (.move (oB false))]
 (oQ [oA 6 5 2,oD 7 6,oL 8 2 3,oW 9 (.call (oF 291) [.t 7,.t 8,oF 292]),oX 10 9 0,oX 11 9 1,oM 4 10,oM 5 11]
 .ret))}
theorem XX:aB Tryz.prog Tryz.f230 .pure=some OW:=by kernel_rfl
end Go.Dm.Tc
