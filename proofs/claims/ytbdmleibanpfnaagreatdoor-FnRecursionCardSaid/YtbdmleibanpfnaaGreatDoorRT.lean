/-
  Evaluations.
-/
import Derived.Test.YtbdmleibanpfnaaGreatDoorRW
import Derived.KernelRfl
set_option linter.all false
set_option linter.all false
set_option maxRecDepth 100000
namespace Go.X1
theorem evl:isT tp=true:=by kernel_rfl
theorem evk0:chkB0 pk0=true:=by kernel_rfl
theorem evk1:chkB0 pk1=true:=by kernel_rfl
theorem evle_w:Nat.ble pw.lo pw.nx=true:=by kernel_rfl
theorem evf_w:fullB pw.t pw.nx=true:=by kernel_rfl
theorem evw_w:okW pw (rh rlw (nat_lit 255)) (nat_lit 319) (g0 (nat_lit 12) .nl (.mk .lf (nat_lit 0) (nat_lit 0)))=true:=by kernel_rfl
end Go.X1
