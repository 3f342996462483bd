/-
What stands in the place of errors.As: its contracts, put together.
-/
import Derived.Test.YtloabemenciijaaGreatDoorAsC
namespace Go.Proofs.YtloabemenciijaaGreatDoor.Err
open Go.RowKit
theorem KQ:Go.Dm.T5 Tryz.prog 75 Tryz.f75 57 157 154 160 where
 hf:=by kernel_rfl
 hb:=rfl
 hn:=by kernel_rfl
 nil:=KP
 num:=fun v r n p old w hg U3 hp hf=>CL v r n p old w (hg 0 _ rfl).2 U3 hp hf
 hit:=fun q p old w hg hp hf=>CK q p old w (hg 0 _ rfl).2 hp hf
 miss:=fun n p w hg=>(S5 n p w (hg 0 _ rfl).2).mono fun e w' h=>by
  obtain⟨e1,w1,k1,rfl⟩:=h
  exact⟨e1,k1⟩
def asHook:Go.Dm.lP:=Go.Dm.asHook 57 157 154 160
theorem asHookOk:Go.Dm.jH Tryz.prog 75 asHook:=Go.Dm.TM KQ
end Go.Proofs.YtloabemenciijaaGreatDoor.Err
