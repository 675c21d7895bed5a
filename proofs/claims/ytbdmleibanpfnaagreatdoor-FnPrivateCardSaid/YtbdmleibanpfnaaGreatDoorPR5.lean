/-
  Evaluations.
-/
import Derived.Test.YtbdmleibanpfnaaGreatDoorPW
import Derived.KernelRfl
set_option linter.all false
set_option linter.all false
set_option maxRecDepth 100000
namespace Go.X1
theorem ev1_60:chkW pp1 (rh rl1 (nat_lit 4095)) (nat_lit 15) (nat_lit 60) (g0 (nat_lit 47))=true:=by kernel_rfl
theorem ev1_61:chkW pp1 (rh rl1 (nat_lit 4095)) (nat_lit 15) (nat_lit 61) (g0 (nat_lit 47))=true:=by kernel_rfl
theorem ev1_62:chkW pp1 (rh rl1 (nat_lit 4095)) (nat_lit 15) (nat_lit 62) (g0 (nat_lit 47))=true:=by kernel_rfl
theorem ev1_63:chkW pp1 (rh rl1 (nat_lit 4095)) (nat_lit 15) (nat_lit 63) (g0 (nat_lit 47))=true:=by kernel_rfl
theorem ev1_64:chkW pp1 (rh rl1 (nat_lit 4095)) (nat_lit 15) (nat_lit 64) (g0 (nat_lit 47))=true:=by kernel_rfl
theorem ev1_65:chkW pp1 (rh rl1 (nat_lit 4095)) (nat_lit 15) (nat_lit 65) (g0 (nat_lit 47))=true:=by kernel_rfl
theorem ev1_66:chkW pp1 (rh rl1 (nat_lit 4095)) (nat_lit 15) (nat_lit 66) (g0 (nat_lit 47))=true:=by kernel_rfl
theorem ev1_67:chkW pp1 (rh rl1 (nat_lit 4095)) (nat_lit 15) (nat_lit 67) (g0 (nat_lit 47))=true:=by kernel_rfl
theorem ev1_68:chkW pp1 (rh rl1 (nat_lit 4095)) (nat_lit 15) (nat_lit 68) (g0 (nat_lit 47))=true:=by kernel_rfl
theorem ev1_69:chkW pp1 (rh rl1 (nat_lit 4095)) (nat_lit 15) (nat_lit 69) (g0 (nat_lit 47))=true:=by kernel_rfl
theorem ev1_70:chkW pp1 (rh rl1 (nat_lit 4095)) (nat_lit 15) (nat_lit 70) (g0 (nat_lit 47))=true:=by kernel_rfl
theorem ev1_71:chkW pp1 (rh rl1 (nat_lit 4095)) (nat_lit 15) (nat_lit 71) (g0 (nat_lit 47))=true:=by kernel_rfl
theorem ev1_72:chkW pp1 (rh rl1 (nat_lit 4095)) (nat_lit 15) (nat_lit 72) (g0 (nat_lit 47))=true:=by kernel_rfl
theorem ev1_73:chkW pp1 (rh rl1 (nat_lit 4095)) (nat_lit 15) (nat_lit 73) (g0 (nat_lit 47))=true:=by kernel_rfl
theorem ev1_74:chkW pp1 (rh rl1 (nat_lit 4095)) (nat_lit 15) (nat_lit 74) (g0 (nat_lit 47))=true:=by kernel_rfl
theorem ev1_75:chkW pp1 (rh rl1 (nat_lit 4095)) (nat_lit 15) (nat_lit 75) (g0 (nat_lit 47))=true:=by kernel_rfl
theorem ev1_76:chkW pp1 (rh rl1 (nat_lit 4095)) (nat_lit 15) (nat_lit 76) (g0 (nat_lit 47))=true:=by kernel_rfl
theorem ev1_77:chkW pp1 (rh rl1 (nat_lit 4095)) (nat_lit 15) (nat_lit 77) (g0 (nat_lit 47))=true:=by kernel_rfl
theorem ev1_78:chkW pp1 (rh rl1 (nat_lit 4095)) (nat_lit 15) (nat_lit 78) (g0 (nat_lit 47))=true:=by kernel_rfl
theorem ev1_79:chkW pp1 (rh rl1 (nat_lit 4095)) (nat_lit 15) (nat_lit 79) (g0 (nat_lit 47))=true:=by kernel_rfl
theorem ev1_80:chkW pp1 (rh rl1 (nat_lit 4095)) (nat_lit 15) (nat_lit 80) (g0 (nat_lit 47))=true:=by kernel_rfl
theorem ev1_81:chkW pp1 (rh rl1 (nat_lit 4095)) (nat_lit 15) (nat_lit 81) (g0 (nat_lit 47))=true:=by kernel_rfl
theorem ev1_82:chkW pp1 (rh rl1 (nat_lit 4095)) (nat_lit 15) (nat_lit 82) (g0 (nat_lit 47))=true:=by kernel_rfl
theorem ev1_83:chkW pp1 (rh rl1 (nat_lit 4095)) (nat_lit 15) (nat_lit 83) (g0 (nat_lit 47))=true:=by kernel_rfl
theorem ev1_84:chkW pp1 (rh rl1 (nat_lit 4095)) (nat_lit 15) (nat_lit 84) (g0 (nat_lit 47))=true:=by kernel_rfl
theorem ev1_85:chkW pp1 (rh rl1 (nat_lit 4095)) (nat_lit 15) (nat_lit 85) (g0 (nat_lit 47))=true:=by kernel_rfl
theorem ev1_86:chkW pp1 (rh rl1 (nat_lit 4095)) (nat_lit 15) (nat_lit 86) (g0 (nat_lit 47))=true:=by kernel_rfl
theorem ev1_87:chkW pp1 (rh rl1 (nat_lit 4095)) (nat_lit 15) (nat_lit 87) (g0 (nat_lit 47))=true:=by kernel_rfl
theorem ev1_88:chkW pp1 (rh rl1 (nat_lit 4095)) (nat_lit 15) (nat_lit 88) (g0 (nat_lit 47))=true:=by kernel_rfl
theorem ev1_89:chkW pp1 (rh rl1 (nat_lit 4095)) (nat_lit 15) (nat_lit 89) (g0 (nat_lit 47))=true:=by kernel_rfl
end Go.X1
