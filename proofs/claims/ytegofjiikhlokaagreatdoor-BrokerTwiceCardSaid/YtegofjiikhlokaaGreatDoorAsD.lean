/-
What stands in the place of errors.As: its contracts, put together.
-/
import Derived.Test.YtegofjiikhlokaaGreatDoorAsC
namespace Go.Proofs.YtegofjiikhlokaaGreatDoor.Err
open Go.RowKit
theorem m8:Go.Dm.PC Tryz.prog 57 Tryz.f57 65 125 122 128 where
 hf:=by kernel_rfl
 hb:=rfl
 hn:=by kernel_rfl
 nil:=m7
 num:=fun v r n p old w hg PI hp hf=>UF v r n p old w (hg 0 _ rfl).2 PI hp hf
 hit:=fun q p old w hg hp hf=>UE q p old w (hg 0 _ rfl).2 hp hf
 miss:=fun n p w hg=>(OU n p w (hg 0 _ rfl).2).mono fun e w' h=>by
  obtain⟨e1,w1,k1,rfl⟩:=h
  exact⟨e1,k1⟩
def asHook:Go.Dm.wL:=Go.Dm.asHook 65 125 122 128
theorem asHookOk:Go.Dm.Bp Tryz.prog 57 asHook:=Go.Dm.AeJ m8
end Go.Proofs.YtegofjiikhlokaaGreatDoor.Err
