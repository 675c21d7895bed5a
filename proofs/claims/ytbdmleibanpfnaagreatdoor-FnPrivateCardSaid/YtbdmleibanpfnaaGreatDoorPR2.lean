/-
  Evaluations.
-/
import Derived.Test.YtbdmleibanpfnaaGreatDoorPW
import Derived.KernelRfl
set_option linter.all false
set_option linter.all false
set_option maxRecDepth 100000
namespace Go.X1
theorem ev0_60:chkW pp0 (rh rl0 (nat_lit 63)) (nat_lit 23) (nat_lit 60) (g0 (nat_lit 47))=true:=by kernel_rfl
theorem ev0_61:chkW pp0 (rh rl0 (nat_lit 63)) (nat_lit 23) (nat_lit 61) (g0 (nat_lit 47))=true:=by kernel_rfl
theorem ev0_62:chkW pp0 (rh rl0 (nat_lit 63)) (nat_lit 23) (nat_lit 62) (g0 (nat_lit 47))=true:=by kernel_rfl
theorem ev0_63:chkW pp0 (rh rl0 (nat_lit 63)) (nat_lit 23) (nat_lit 63) (g0 (nat_lit 47))=true:=by kernel_rfl
theorem ev0_64:chkW pp0 (rh rl0 (nat_lit 63)) (nat_lit 23) (nat_lit 64) (g0 (nat_lit 47))=true:=by kernel_rfl
theorem ev0_65:chkW pp0 (rh rl0 (nat_lit 63)) (nat_lit 23) (nat_lit 65) (g0 (nat_lit 47))=true:=by kernel_rfl
theorem ev0_66:chkW pp0 (rh rl0 (nat_lit 63)) (nat_lit 23) (nat_lit 66) (g0 (nat_lit 47))=true:=by kernel_rfl
theorem ev0_67:chkW pp0 (rh rl0 (nat_lit 63)) (nat_lit 23) (nat_lit 67) (g0 (nat_lit 47))=true:=by kernel_rfl
theorem ev0_68:chkW pp0 (rh rl0 (nat_lit 63)) (nat_lit 23) (nat_lit 68) (g0 (nat_lit 47))=true:=by kernel_rfl
theorem ev0_69:chkW pp0 (rh rl0 (nat_lit 63)) (nat_lit 23) (nat_lit 69) (g0 (nat_lit 47))=true:=by kernel_rfl
theorem ev0_70:chkW pp0 (rh rl0 (nat_lit 63)) (nat_lit 23) (nat_lit 70) (g0 (nat_lit 47))=true:=by kernel_rfl
theorem ev0_71:chkW pp0 (rh rl0 (nat_lit 63)) (nat_lit 23) (nat_lit 71) (g0 (nat_lit 47))=true:=by kernel_rfl
theorem ev0_72:chkW pp0 (rh rl0 (nat_lit 63)) (nat_lit 23) (nat_lit 72) (g0 (nat_lit 47))=true:=by kernel_rfl
theorem ev0_73:chkW pp0 (rh rl0 (nat_lit 63)) (nat_lit 23) (nat_lit 73) (g0 (nat_lit 47))=true:=by kernel_rfl
theorem ev0_74:chkW pp0 (rh rl0 (nat_lit 63)) (nat_lit 23) (nat_lit 74) (g0 (nat_lit 47))=true:=by kernel_rfl
theorem ev0_75:chkW pp0 (rh rl0 (nat_lit 63)) (nat_lit 23) (nat_lit 75) (g0 (nat_lit 47))=true:=by kernel_rfl
theorem ev0_76:chkW pp0 (rh rl0 (nat_lit 63)) (nat_lit 23) (nat_lit 76) (g0 (nat_lit 47))=true:=by kernel_rfl
theorem ev0_77:chkW pp0 (rh rl0 (nat_lit 63)) (nat_lit 23) (nat_lit 77) (g0 (nat_lit 47))=true:=by kernel_rfl
theorem ev0_78:chkW pp0 (rh rl0 (nat_lit 63)) (nat_lit 23) (nat_lit 78) (g0 (nat_lit 47))=true:=by kernel_rfl
theorem ev0_79:chkW pp0 (rh rl0 (nat_lit 63)) (nat_lit 23) (nat_lit 79) (g0 (nat_lit 47))=true:=by kernel_rfl
theorem ev0_80:chkW pp0 (rh rl0 (nat_lit 63)) (nat_lit 23) (nat_lit 80) (g0 (nat_lit 47))=true:=by kernel_rfl
theorem ev0_81:chkW pp0 (rh rl0 (nat_lit 63)) (nat_lit 23) (nat_lit 81) (g0 (nat_lit 47))=true:=by kernel_rfl
theorem ev0_82:chkW pp0 (rh rl0 (nat_lit 63)) (nat_lit 23) (nat_lit 82) (g0 (nat_lit 47))=true:=by kernel_rfl
theorem ev0_83:chkW pp0 (rh rl0 (nat_lit 63)) (nat_lit 23) (nat_lit 83) (g0 (nat_lit 47))=true:=by kernel_rfl
theorem ev0_84:chkW pp0 (rh rl0 (nat_lit 63)) (nat_lit 23) (nat_lit 84) (g0 (nat_lit 47))=true:=by kernel_rfl
theorem ev0_85:chkW pp0 (rh rl0 (nat_lit 63)) (nat_lit 23) (nat_lit 85) (g0 (nat_lit 47))=true:=by kernel_rfl
theorem ev0_86:chkW pp0 (rh rl0 (nat_lit 63)) (nat_lit 23) (nat_lit 86) (g0 (nat_lit 47))=true:=by kernel_rfl
theorem ev0_87:chkW pp0 (rh rl0 (nat_lit 63)) (nat_lit 23) (nat_lit 87) (g0 (nat_lit 47))=true:=by kernel_rfl
theorem ev0_88:chkW pp0 (rh rl0 (nat_lit 63)) (nat_lit 23) (nat_lit 88) (g0 (nat_lit 47))=true:=by kernel_rfl
theorem ev0_89:chkW pp0 (rh rl0 (nat_lit 63)) (nat_lit 23) (nat_lit 89) (g0 (nat_lit 47))=true:=by kernel_rfl
end Go.X1
