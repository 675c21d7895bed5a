/-
  Programs, made by wip/gen: H
-/
import Derived.Test.YtiecdekmiabmkaaDoorGpG
set_option linter.unusedVariables false
set_option linter.unusedSimpArgs false
namespace Go.Abs
set_option linter.unusedVariables false

def w_FnExactFormatInstr (aX : PInstr) : Option Bool :=
  bnd (w_szInstr aX 1048576) fun x2 =>
  if x2 < 0 then
    some true
  else
    bnd (w_toInstr aX) fun x3 =>
    bnd (s_FormatInstr x3) fun x4 =>
    bnd (w_toInstr aX) fun x5 =>
    bnd (i_FormatInstr x5) fun x6 =>
    if x6 = x4 then
      bnd (w_toInstr aX) fun x7 =>
      bnd (w_eqInstr x5 x7) fun x8 =>
      if x8 = true then
        some true
      else
        some false
    else
      some false

end Go.Abs
