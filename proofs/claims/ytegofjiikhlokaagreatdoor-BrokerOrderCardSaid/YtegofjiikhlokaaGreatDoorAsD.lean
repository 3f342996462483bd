/-
What stands in the place of errors.As: its contracts, put together.
-/
import Derived.Test.YtegofjiikhlokaaGreatDoorAsC
namespace Go.Proofs.YtegofjiikhlokaaGreatDoor.Err
open Go.RowKit
theorem AaA:Go.Dm.QE Tryz.prog 57 Tryz.f57 65 125 122 128 where
 hf:=by kernel_rfl
 hb:=rfl
 hn:=by kernel_rfl
 nil:=z9
 num:=fun v r n p old w hg QK hp hf=>VJ v r n p old w (hg 0 _ rfl).2 QK hp hf
 hit:=fun q p old w hg hp hf=>VI q p old w (hg 0 _ rfl).2 hp hf
 miss:=fun n p w hg=>(PU n p w (hg 0 _ rfl).2).mono fun e w' h=>by
  obtain⟨e1,w1,k1,rfl⟩:=h
  exact⟨e1,k1⟩
def asHook:Go.Dm.wQ:=Go.Dm.asHook 65 125 122 128
theorem asHookOk:Go.Dm.Bu Tryz.prog 57 asHook:=Go.Dm.AhE AaA
end Go.Proofs.YtegofjiikhlokaaGreatDoor.Err
