/-
  Evaluations.
-/
import Derived.Test.YtbdmleibanpfnaaGreatDoorPW
import Derived.KernelRfl
set_option linter.all false
set_option linter.all false
set_option maxRecDepth 100000
namespace Go.X1
theorem ev0_30:chkW pp0 (rh rl0 (nat_lit 63)) (nat_lit 23) (nat_lit 30) (g0 (nat_lit 47))=true:=by kernel_rfl
theorem ev0_31:chkW pp0 (rh rl0 (nat_lit 63)) (nat_lit 23) (nat_lit 31) (g0 (nat_lit 47))=true:=by kernel_rfl
theorem ev0_32:chkW pp0 (rh rl0 (nat_lit 63)) (nat_lit 23) (nat_lit 32) (g0 (nat_lit 47))=true:=by kernel_rfl
theorem ev0_33:chkW pp0 (rh rl0 (nat_lit 63)) (nat_lit 23) (nat_lit 33) (g0 (nat_lit 47))=true:=by kernel_rfl
theorem ev0_34:chkW pp0 (rh rl0 (nat_lit 63)) (nat_lit 23) (nat_lit 34) (g0 (nat_lit 47))=true:=by kernel_rfl
theorem ev0_35:chkW pp0 (rh rl0 (nat_lit 63)) (nat_lit 23) (nat_lit 35) (g0 (nat_lit 47))=true:=by kernel_rfl
theorem ev0_36:chkW pp0 (rh rl0 (nat_lit 63)) (nat_lit 23) (nat_lit 36) (g0 (nat_lit 47))=true:=by kernel_rfl
theorem ev0_37:chkW pp0 (rh rl0 (nat_lit 63)) (nat_lit 23) (nat_lit 37) (g0 (nat_lit 47))=true:=by kernel_rfl
theorem ev0_38:chkW pp0 (rh rl0 (nat_lit 63)) (nat_lit 23) (nat_lit 38) (g0 (nat_lit 47))=true:=by kernel_rfl
theorem ev0_39:chkW pp0 (rh rl0 (nat_lit 63)) (nat_lit 23) (nat_lit 39) (g0 (nat_lit 47))=true:=by kernel_rfl
theorem ev0_40:chkW pp0 (rh rl0 (nat_lit 63)) (nat_lit 23) (nat_lit 40) (g0 (nat_lit 47))=true:=by kernel_rfl
theorem ev0_41:chkW pp0 (rh rl0 (nat_lit 63)) (nat_lit 23) (nat_lit 41) (g0 (nat_lit 47))=true:=by kernel_rfl
theorem ev0_42:chkW pp0 (rh rl0 (nat_lit 63)) (nat_lit 23) (nat_lit 42) (g0 (nat_lit 47))=true:=by kernel_rfl
theorem ev0_43:chkW pp0 (rh rl0 (nat_lit 63)) (nat_lit 23) (nat_lit 43) (g0 (nat_lit 47))=true:=by kernel_rfl
theorem ev0_44:chkW pp0 (rh rl0 (nat_lit 63)) (nat_lit 23) (nat_lit 44) (g0 (nat_lit 47))=true:=by kernel_rfl
theorem ev0_45:chkW pp0 (rh rl0 (nat_lit 63)) (nat_lit 23) (nat_lit 45) (g0 (nat_lit 47))=true:=by kernel_rfl
theorem ev0_46:chkW pp0 (rh rl0 (nat_lit 63)) (nat_lit 23) (nat_lit 46) (g0 (nat_lit 47))=true:=by kernel_rfl
theorem ev0_47:chkW pp0 (rh rl0 (nat_lit 63)) (nat_lit 23) (nat_lit 47) (g0 (nat_lit 47))=true:=by kernel_rfl
theorem ev0_48:chkW pp0 (rh rl0 (nat_lit 63)) (nat_lit 23) (nat_lit 48) (g0 (nat_lit 47))=true:=by kernel_rfl
theorem ev0_49:chkW pp0 (rh rl0 (nat_lit 63)) (nat_lit 23) (nat_lit 49) (g0 (nat_lit 47))=true:=by kernel_rfl
theorem ev0_50:chkW pp0 (rh rl0 (nat_lit 63)) (nat_lit 23) (nat_lit 50) (g0 (nat_lit 47))=true:=by kernel_rfl
theorem ev0_51:chkW pp0 (rh rl0 (nat_lit 63)) (nat_lit 23) (nat_lit 51) (g0 (nat_lit 47))=true:=by kernel_rfl
theorem ev0_52:chkW pp0 (rh rl0 (nat_lit 63)) (nat_lit 23) (nat_lit 52) (g0 (nat_lit 47))=true:=by kernel_rfl
theorem ev0_53:chkW pp0 (rh rl0 (nat_lit 63)) (nat_lit 23) (nat_lit 53) (g0 (nat_lit 47))=true:=by kernel_rfl
theorem ev0_54:chkW pp0 (rh rl0 (nat_lit 63)) (nat_lit 23) (nat_lit 54) (g0 (nat_lit 47))=true:=by kernel_rfl
theorem ev0_55:chkW pp0 (rh rl0 (nat_lit 63)) (nat_lit 23) (nat_lit 55) (g0 (nat_lit 47))=true:=by kernel_rfl
theorem ev0_56:chkW pp0 (rh rl0 (nat_lit 63)) (nat_lit 23) (nat_lit 56) (g0 (nat_lit 47))=true:=by kernel_rfl
theorem ev0_57:chkW pp0 (rh rl0 (nat_lit 63)) (nat_lit 23) (nat_lit 57) (g0 (nat_lit 47))=true:=by kernel_rfl
theorem ev0_58:chkW pp0 (rh rl0 (nat_lit 63)) (nat_lit 23) (nat_lit 58) (g0 (nat_lit 47))=true:=by kernel_rfl
theorem ev0_59:chkW pp0 (rh rl0 (nat_lit 63)) (nat_lit 23) (nat_lit 59) (g0 (nat_lit 47))=true:=by kernel_rfl
end Go.X1
