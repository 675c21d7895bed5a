/-
  Evaluations.
-/
import Derived.Test.YtbdmleibanpfnaaGreatDoorLW
import Derived.KernelRfl
set_option linter.all false
set_option linter.all false
set_option maxRecDepth 100000
namespace Go.X1
theorem evl:isT tp=true:=by kernel_rfl
theorem evk:chkB0 pk=true:=by kernel_rfl
theorem evle_w:Nat.ble pw.lo pw.nx=true:=by kernel_rfl
theorem evf_w:fullB pw.t pw.nx=true:=by kernel_rfl
theorem evw_w:okW pw (rh rlw (nat_lit 255)) (nat_lit 319) (g0 (nat_lit 12) .nl (.mk .lf (nat_lit 0) (nat_lit 0)))=true:=by kernel_rfl
theorem evle_v:Nat.ble pv.lo pv.nx=true:=by kernel_rfl
theorem evf_v:fullB pv.t pv.nx=true:=by kernel_rfl
theorem evw_v:okW pv (rh rlw (nat_lit 8191)) (nat_lit 319) (g0 (nat_lit 12) .nl (.mk .lf (nat_lit 0) (nat_lit 0)))=true:=by kernel_rfl
end Go.X1
