/-
  Evaluations.
-/
import Derived.Test.YtbdmleibanpfnaaGreatDoorPW
import Derived.KernelRfl
set_option linter.all false
set_option linter.all false
set_option maxRecDepth 100000
namespace Go.X1
theorem ev1_0:chkW pp1 (rh rl1 (nat_lit 4095)) (nat_lit 15) (nat_lit 0) (g0 (nat_lit 47))=true:=by kernel_rfl
theorem ev1_1:chkW pp1 (rh rl1 (nat_lit 4095)) (nat_lit 15) (nat_lit 1) (g0 (nat_lit 47))=true:=by kernel_rfl
theorem ev1_2:chkW pp1 (rh rl1 (nat_lit 4095)) (nat_lit 15) (nat_lit 2) (g0 (nat_lit 47))=true:=by kernel_rfl
theorem ev1_3:chkW pp1 (rh rl1 (nat_lit 4095)) (nat_lit 15) (nat_lit 3) (g0 (nat_lit 47))=true:=by kernel_rfl
theorem ev1_4:chkW pp1 (rh rl1 (nat_lit 4095)) (nat_lit 15) (nat_lit 4) (g0 (nat_lit 47))=true:=by kernel_rfl
theorem ev1_5:chkW pp1 (rh rl1 (nat_lit 4095)) (nat_lit 15) (nat_lit 5) (g0 (nat_lit 47))=true:=by kernel_rfl
theorem ev1_6:chkW pp1 (rh rl1 (nat_lit 4095)) (nat_lit 15) (nat_lit 6) (g0 (nat_lit 47))=true:=by kernel_rfl
theorem ev1_7:chkW pp1 (rh rl1 (nat_lit 4095)) (nat_lit 15) (nat_lit 7) (g0 (nat_lit 47))=true:=by kernel_rfl
theorem ev1_8:chkW pp1 (rh rl1 (nat_lit 4095)) (nat_lit 15) (nat_lit 8) (g0 (nat_lit 47))=true:=by kernel_rfl
theorem ev1_9:chkW pp1 (rh rl1 (nat_lit 4095)) (nat_lit 15) (nat_lit 9) (g0 (nat_lit 47))=true:=by kernel_rfl
theorem ev1_10:chkW pp1 (rh rl1 (nat_lit 4095)) (nat_lit 15) (nat_lit 10) (g0 (nat_lit 47))=true:=by kernel_rfl
theorem ev1_11:chkW pp1 (rh rl1 (nat_lit 4095)) (nat_lit 15) (nat_lit 11) (g0 (nat_lit 47))=true:=by kernel_rfl
theorem ev1_12:chkW pp1 (rh rl1 (nat_lit 4095)) (nat_lit 15) (nat_lit 12) (g0 (nat_lit 47))=true:=by kernel_rfl
theorem ev1_13:chkW pp1 (rh rl1 (nat_lit 4095)) (nat_lit 15) (nat_lit 13) (g0 (nat_lit 47))=true:=by kernel_rfl
theorem ev1_14:chkW pp1 (rh rl1 (nat_lit 4095)) (nat_lit 15) (nat_lit 14) (g0 (nat_lit 47))=true:=by kernel_rfl
theorem ev1_15:chkW pp1 (rh rl1 (nat_lit 4095)) (nat_lit 15) (nat_lit 15) (g0 (nat_lit 47))=true:=by kernel_rfl
theorem ev1_16:chkW pp1 (rh rl1 (nat_lit 4095)) (nat_lit 15) (nat_lit 16) (g0 (nat_lit 47))=true:=by kernel_rfl
theorem ev1_17:chkW pp1 (rh rl1 (nat_lit 4095)) (nat_lit 15) (nat_lit 17) (g0 (nat_lit 47))=true:=by kernel_rfl
theorem ev1_18:chkW pp1 (rh rl1 (nat_lit 4095)) (nat_lit 15) (nat_lit 18) (g0 (nat_lit 47))=true:=by kernel_rfl
theorem ev1_19:chkW pp1 (rh rl1 (nat_lit 4095)) (nat_lit 15) (nat_lit 19) (g0 (nat_lit 47))=true:=by kernel_rfl
theorem ev1_20:chkW pp1 (rh rl1 (nat_lit 4095)) (nat_lit 15) (nat_lit 20) (g0 (nat_lit 47))=true:=by kernel_rfl
theorem ev1_21:chkW pp1 (rh rl1 (nat_lit 4095)) (nat_lit 15) (nat_lit 21) (g0 (nat_lit 47))=true:=by kernel_rfl
theorem ev1_22:chkW pp1 (rh rl1 (nat_lit 4095)) (nat_lit 15) (nat_lit 22) (g0 (nat_lit 47))=true:=by kernel_rfl
theorem ev1_23:chkW pp1 (rh rl1 (nat_lit 4095)) (nat_lit 15) (nat_lit 23) (g0 (nat_lit 47))=true:=by kernel_rfl
theorem ev1_24:chkW pp1 (rh rl1 (nat_lit 4095)) (nat_lit 15) (nat_lit 24) (g0 (nat_lit 47))=true:=by kernel_rfl
theorem ev1_25:chkW pp1 (rh rl1 (nat_lit 4095)) (nat_lit 15) (nat_lit 25) (g0 (nat_lit 47))=true:=by kernel_rfl
theorem ev1_26:chkW pp1 (rh rl1 (nat_lit 4095)) (nat_lit 15) (nat_lit 26) (g0 (nat_lit 47))=true:=by kernel_rfl
theorem ev1_27:chkW pp1 (rh rl1 (nat_lit 4095)) (nat_lit 15) (nat_lit 27) (g0 (nat_lit 47))=true:=by kernel_rfl
theorem ev1_28:chkW pp1 (rh rl1 (nat_lit 4095)) (nat_lit 15) (nat_lit 28) (g0 (nat_lit 47))=true:=by kernel_rfl
theorem ev1_29:chkW pp1 (rh rl1 (nat_lit 4095)) (nat_lit 15) (nat_lit 29) (g0 (nat_lit 47))=true:=by kernel_rfl
end Go.X1
