/-
  Evaluations.
-/
import Derived.Test.YtbdmleibanpfnaaGreatDoorPW
import Derived.KernelRfl
set_option linter.all false
set_option linter.all false
set_option maxRecDepth 100000
namespace Go.X1
theorem ev0_0:chkW pp0 (rh rl0 (nat_lit 63)) (nat_lit 23) (nat_lit 0) (g0 (nat_lit 47))=true:=by kernel_rfl
theorem ev0_1:chkW pp0 (rh rl0 (nat_lit 63)) (nat_lit 23) (nat_lit 1) (g0 (nat_lit 47))=true:=by kernel_rfl
theorem ev0_2:chkW pp0 (rh rl0 (nat_lit 63)) (nat_lit 23) (nat_lit 2) (g0 (nat_lit 47))=true:=by kernel_rfl
theorem ev0_3:chkW pp0 (rh rl0 (nat_lit 63)) (nat_lit 23) (nat_lit 3) (g0 (nat_lit 47))=true:=by kernel_rfl
theorem ev0_4:chkW pp0 (rh rl0 (nat_lit 63)) (nat_lit 23) (nat_lit 4) (g0 (nat_lit 47))=true:=by kernel_rfl
theorem ev0_5:chkW pp0 (rh rl0 (nat_lit 63)) (nat_lit 23) (nat_lit 5) (g0 (nat_lit 47))=true:=by kernel_rfl
theorem ev0_6:chkW pp0 (rh rl0 (nat_lit 63)) (nat_lit 23) (nat_lit 6) (g0 (nat_lit 47))=true:=by kernel_rfl
theorem ev0_7:chkW pp0 (rh rl0 (nat_lit 63)) (nat_lit 23) (nat_lit 7) (g0 (nat_lit 47))=true:=by kernel_rfl
theorem ev0_8:chkW pp0 (rh rl0 (nat_lit 63)) (nat_lit 23) (nat_lit 8) (g0 (nat_lit 47))=true:=by kernel_rfl
theorem ev0_9:chkW pp0 (rh rl0 (nat_lit 63)) (nat_lit 23) (nat_lit 9) (g0 (nat_lit 47))=true:=by kernel_rfl
theorem ev0_10:chkW pp0 (rh rl0 (nat_lit 63)) (nat_lit 23) (nat_lit 10) (g0 (nat_lit 47))=true:=by kernel_rfl
theorem ev0_11:chkW pp0 (rh rl0 (nat_lit 63)) (nat_lit 23) (nat_lit 11) (g0 (nat_lit 47))=true:=by kernel_rfl
theorem ev0_12:chkW pp0 (rh rl0 (nat_lit 63)) (nat_lit 23) (nat_lit 12) (g0 (nat_lit 47))=true:=by kernel_rfl
theorem ev0_13:chkW pp0 (rh rl0 (nat_lit 63)) (nat_lit 23) (nat_lit 13) (g0 (nat_lit 47))=true:=by kernel_rfl
theorem ev0_14:chkW pp0 (rh rl0 (nat_lit 63)) (nat_lit 23) (nat_lit 14) (g0 (nat_lit 47))=true:=by kernel_rfl
theorem ev0_15:chkW pp0 (rh rl0 (nat_lit 63)) (nat_lit 23) (nat_lit 15) (g0 (nat_lit 47))=true:=by kernel_rfl
theorem ev0_16:chkW pp0 (rh rl0 (nat_lit 63)) (nat_lit 23) (nat_lit 16) (g0 (nat_lit 47))=true:=by kernel_rfl
theorem ev0_17:chkW pp0 (rh rl0 (nat_lit 63)) (nat_lit 23) (nat_lit 17) (g0 (nat_lit 47))=true:=by kernel_rfl
theorem ev0_18:chkW pp0 (rh rl0 (nat_lit 63)) (nat_lit 23) (nat_lit 18) (g0 (nat_lit 47))=true:=by kernel_rfl
theorem ev0_19:chkW pp0 (rh rl0 (nat_lit 63)) (nat_lit 23) (nat_lit 19) (g0 (nat_lit 47))=true:=by kernel_rfl
theorem ev0_20:chkW pp0 (rh rl0 (nat_lit 63)) (nat_lit 23) (nat_lit 20) (g0 (nat_lit 47))=true:=by kernel_rfl
theorem ev0_21:chkW pp0 (rh rl0 (nat_lit 63)) (nat_lit 23) (nat_lit 21) (g0 (nat_lit 47))=true:=by kernel_rfl
theorem ev0_22:chkW pp0 (rh rl0 (nat_lit 63)) (nat_lit 23) (nat_lit 22) (g0 (nat_lit 47))=true:=by kernel_rfl
theorem ev0_23:chkW pp0 (rh rl0 (nat_lit 63)) (nat_lit 23) (nat_lit 23) (g0 (nat_lit 47))=true:=by kernel_rfl
theorem ev0_24:chkW pp0 (rh rl0 (nat_lit 63)) (nat_lit 23) (nat_lit 24) (g0 (nat_lit 47))=true:=by kernel_rfl
theorem ev0_25:chkW pp0 (rh rl0 (nat_lit 63)) (nat_lit 23) (nat_lit 25) (g0 (nat_lit 47))=true:=by kernel_rfl
theorem ev0_26:chkW pp0 (rh rl0 (nat_lit 63)) (nat_lit 23) (nat_lit 26) (g0 (nat_lit 47))=true:=by kernel_rfl
theorem ev0_27:chkW pp0 (rh rl0 (nat_lit 63)) (nat_lit 23) (nat_lit 27) (g0 (nat_lit 47))=true:=by kernel_rfl
theorem ev0_28:chkW pp0 (rh rl0 (nat_lit 63)) (nat_lit 23) (nat_lit 28) (g0 (nat_lit 47))=true:=by kernel_rfl
theorem ev0_29:chkW pp0 (rh rl0 (nat_lit 63)) (nat_lit 23) (nat_lit 29) (g0 (nat_lit 47))=true:=by kernel_rfl
end Go.X1
