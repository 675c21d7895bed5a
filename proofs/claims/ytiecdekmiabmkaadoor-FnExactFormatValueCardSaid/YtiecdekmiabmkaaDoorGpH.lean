/-
  Programs, made by wip/gen: H
-/
import Derived.Test.YtiecdekmiabmkaaDoorGpG
set_option linter.unusedVariables false
set_option linter.unusedSimpArgs false
namespace Go.Abs
set_option linter.unusedVariables false

def w_FnExactFormatValue (aV : PVal) (aPairs : List PPair) : Option Bool :=
  bnd (w_szValue aV 1048576) fun x3 =>
  if x3 < 0 then
    some true
  else
    bnd (w_szPairS aPairs x3) fun x4 =>
    if x4 < 0 then
      some true
    else
      bnd (w_toValue aV) fun x5 =>
      bnd (w_toPairS aPairs) fun x6 =>
      bnd (s_FormatValue x5 x6) fun x7 =>
      bnd (w_toPairS aPairs) fun x8 =>
      bnd (w_toValue aV) fun x9 =>
      bnd (i_FormatValue x9 x8) fun x10 =>
      if x10 = x7 then
        bnd (w_toPairS aPairs) fun x11 =>
        bnd (w_eqPairS x8 x11) fun x12 =>
        if x12 = true then
          some true
        else
          some false
      else
        some false

end Go.Abs
