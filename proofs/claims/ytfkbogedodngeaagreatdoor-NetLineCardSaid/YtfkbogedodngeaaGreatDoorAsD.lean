/-
What stands in the place of errors.As: its contracts, put together.
-/
import Derived.Test.YtfkbogedodngeaaGreatDoorAsC
namespace Go.Proofs.YtfkbogedodngeaaGreatDoor.Err
open Go.RowKit
theorem XR:Go.Dm.LG Tryz.prog 62 Tryz.f62 57 140 137 143 where
 hf:=by kernel_rfl
 hb:=rfl
 hn:=by kernel_rfl
 nil:=XQ
 num:=fun v r n p old w hg LW hp hf=>QR v r n p old w (hg 0 _ rfl).2 LW hp hf
 hit:=fun q p old w hg hp hf=>QQ q p old w (hg 0 _ rfl).2 hp hf
 miss:=fun n p w hg=>(KT n p w (hg 0 _ rfl).2).mono fun e w' h=>by
  obtain⟨e1,w1,k1,rfl⟩:=h
  exact⟨e1,k1⟩
def asHook:Go.Dm.qJ:=Go.Dm.asHook 57 140 137 143
theorem asHookOk:Go.Dm.mY Tryz.prog 62 asHook:=Go.Dm.AbA XR
end Go.Proofs.YtfkbogedodngeaaGreatDoor.Err
