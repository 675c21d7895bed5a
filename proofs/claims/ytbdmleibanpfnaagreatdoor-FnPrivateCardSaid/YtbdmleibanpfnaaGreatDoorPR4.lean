/-
  Evaluations.
-/
import Derived.Test.YtbdmleibanpfnaaGreatDoorPW
import Derived.KernelRfl
set_option linter.all false
set_option linter.all false
set_option maxRecDepth 100000
namespace Go.X1
theorem ev1_30:chkW pp1 (rh rl1 (nat_lit 4095)) (nat_lit 15) (nat_lit 30) (g0 (nat_lit 47))=true:=by kernel_rfl
theorem ev1_31:chkW pp1 (rh rl1 (nat_lit 4095)) (nat_lit 15) (nat_lit 31) (g0 (nat_lit 47))=true:=by kernel_rfl
theorem ev1_32:chkW pp1 (rh rl1 (nat_lit 4095)) (nat_lit 15) (nat_lit 32) (g0 (nat_lit 47))=true:=by kernel_rfl
theorem ev1_33:chkW pp1 (rh rl1 (nat_lit 4095)) (nat_lit 15) (nat_lit 33) (g0 (nat_lit 47))=true:=by kernel_rfl
theorem ev1_34:chkW pp1 (rh rl1 (nat_lit 4095)) (nat_lit 15) (nat_lit 34) (g0 (nat_lit 47))=true:=by kernel_rfl
theorem ev1_35:chkW pp1 (rh rl1 (nat_lit 4095)) (nat_lit 15) (nat_lit 35) (g0 (nat_lit 47))=true:=by kernel_rfl
theorem ev1_36:chkW pp1 (rh rl1 (nat_lit 4095)) (nat_lit 15) (nat_lit 36) (g0 (nat_lit 47))=true:=by kernel_rfl
theorem ev1_37:chkW pp1 (rh rl1 (nat_lit 4095)) (nat_lit 15) (nat_lit 37) (g0 (nat_lit 47))=true:=by kernel_rfl
theorem ev1_38:chkW pp1 (rh rl1 (nat_lit 4095)) (nat_lit 15) (nat_lit 38) (g0 (nat_lit 47))=true:=by kernel_rfl
theorem ev1_39:chkW pp1 (rh rl1 (nat_lit 4095)) (nat_lit 15) (nat_lit 39) (g0 (nat_lit 47))=true:=by kernel_rfl
theorem ev1_40:chkW pp1 (rh rl1 (nat_lit 4095)) (nat_lit 15) (nat_lit 40) (g0 (nat_lit 47))=true:=by kernel_rfl
theorem ev1_41:chkW pp1 (rh rl1 (nat_lit 4095)) (nat_lit 15) (nat_lit 41) (g0 (nat_lit 47))=true:=by kernel_rfl
theorem ev1_42:chkW pp1 (rh rl1 (nat_lit 4095)) (nat_lit 15) (nat_lit 42) (g0 (nat_lit 47))=true:=by kernel_rfl
theorem ev1_43:chkW pp1 (rh rl1 (nat_lit 4095)) (nat_lit 15) (nat_lit 43) (g0 (nat_lit 47))=true:=by kernel_rfl
theorem ev1_44:chkW pp1 (rh rl1 (nat_lit 4095)) (nat_lit 15) (nat_lit 44) (g0 (nat_lit 47))=true:=by kernel_rfl
theorem ev1_45:chkW pp1 (rh rl1 (nat_lit 4095)) (nat_lit 15) (nat_lit 45) (g0 (nat_lit 47))=true:=by kernel_rfl
theorem ev1_46:chkW pp1 (rh rl1 (nat_lit 4095)) (nat_lit 15) (nat_lit 46) (g0 (nat_lit 47))=true:=by kernel_rfl
theorem ev1_47:chkW pp1 (rh rl1 (nat_lit 4095)) (nat_lit 15) (nat_lit 47) (g0 (nat_lit 47))=true:=by kernel_rfl
theorem ev1_48:chkW pp1 (rh rl1 (nat_lit 4095)) (nat_lit 15) (nat_lit 48) (g0 (nat_lit 47))=true:=by kernel_rfl
theorem ev1_49:chkW pp1 (rh rl1 (nat_lit 4095)) (nat_lit 15) (nat_lit 49) (g0 (nat_lit 47))=true:=by kernel_rfl
theorem ev1_50:chkW pp1 (rh rl1 (nat_lit 4095)) (nat_lit 15) (nat_lit 50) (g0 (nat_lit 47))=true:=by kernel_rfl
theorem ev1_51:chkW pp1 (rh rl1 (nat_lit 4095)) (nat_lit 15) (nat_lit 51) (g0 (nat_lit 47))=true:=by kernel_rfl
theorem ev1_52:chkW pp1 (rh rl1 (nat_lit 4095)) (nat_lit 15) (nat_lit 52) (g0 (nat_lit 47))=true:=by kernel_rfl
theorem ev1_53:chkW pp1 (rh rl1 (nat_lit 4095)) (nat_lit 15) (nat_lit 53) (g0 (nat_lit 47))=true:=by kernel_rfl
theorem ev1_54:chkW pp1 (rh rl1 (nat_lit 4095)) (nat_lit 15) (nat_lit 54) (g0 (nat_lit 47))=true:=by kernel_rfl
theorem ev1_55:chkW pp1 (rh rl1 (nat_lit 4095)) (nat_lit 15) (nat_lit 55) (g0 (nat_lit 47))=true:=by kernel_rfl
theorem ev1_56:chkW pp1 (rh rl1 (nat_lit 4095)) (nat_lit 15) (nat_lit 56) (g0 (nat_lit 47))=true:=by kernel_rfl
theorem ev1_57:chkW pp1 (rh rl1 (nat_lit 4095)) (nat_lit 15) (nat_lit 57) (g0 (nat_lit 47))=true:=by kernel_rfl
theorem ev1_58:chkW pp1 (rh rl1 (nat_lit 4095)) (nat_lit 15) (nat_lit 58) (g0 (nat_lit 47))=true:=by kernel_rfl
theorem ev1_59:chkW pp1 (rh rl1 (nat_lit 4095)) (nat_lit 15) (nat_lit 59) (g0 (nat_lit 47))=true:=by kernel_rfl
end Go.X1
