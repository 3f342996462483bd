/-
What stands in the place of errors.As: its contracts, put together.
-/
import Derived.Test.YtfkbogedodngeaaGreatDoorAsC
namespace Go.Proofs.YtfkbogedodngeaaGreatDoor.Err
open Go.RowKit
theorem YH:Go.Dm.NH Tryz.prog 62 Tryz.f62 57 140 137 143 where
 hf:=by kernel_rfl
 hb:=rfl
 hn:=by kernel_rfl
 nil:=YG
 num:=fun v r n p old w hg NS hp hf=>SP v r n p old w (hg 0 _ rfl).2 NS hp hf
 hit:=fun q p old w hg hp hf=>SO q p old w (hg 0 _ rfl).2 hp hf
 miss:=fun n p w hg=>(MW n p w (hg 0 _ rfl).2).mono fun e w' h=>by
  obtain⟨e1,w1,k1,rfl⟩:=h
  exact⟨e1,k1⟩
def asHook:Go.Dm.rT:=Go.Dm.asHook 57 140 137 143
theorem asHookOk:Go.Dm.oT Tryz.prog 62 asHook:=Go.Dm.AaB YH
end Go.Proofs.YtfkbogedodngeaaGreatDoor.Err
