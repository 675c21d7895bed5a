/-
  Programs, made by wip/gen: E
-/
import Derived.Test.YtiecdekmiabmkaaGpD
set_option linter.unusedVariables false
set_option linter.unusedSimpArgs false
namespace Go.Abs
set_option linter.unusedVariables false

def w_FnExactIsObject (aO : PObj) : Option Bool :=
  bnd (w_szObject aO 1048576) fun x2 =>
  if x2 < 0 then
    some true
  else
    bnd (w_toObject aO) fun x3 =>
    bnd (s_IsObject x3) fun x4 =>
    bnd (w_toObject aO) fun x5 =>
    bnd (i_IsObject x5) fun x6 =>
    if x6 = x4 then
      bnd (w_toObject aO) fun x7 =>
      bnd (w_eqObject x5 x7) fun x8 =>
      if x8 = true then
        some true
      else
        some false
    else
      some false

end Go.Abs
