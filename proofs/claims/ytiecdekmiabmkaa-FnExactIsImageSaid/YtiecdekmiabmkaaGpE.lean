/-
  Programs, made by wip/gen: E
-/
import Derived.Test.YtiecdekmiabmkaaGpD
set_option linter.unusedVariables false
set_option linter.unusedSimpArgs false
namespace Go.Abs
set_option linter.unusedVariables false

def w_FnExactIsImage (aM : PImage) (aCaptures : Int) : Option Bool :=
  bnd (w_szImage aM 1048576) fun x3 =>
  if x3 < 0 then
    some true
  else
    bnd (w_toImage aM) fun x4 =>
    bnd (s_IsImage x4 aCaptures) fun x5 =>
    bnd (w_toImage aM) fun x6 =>
    bnd (i_IsImage x6 aCaptures) fun x7 =>
    if x7 = x5 then
      bnd (w_toImage aM) fun x8 =>
      bnd (w_eqImage x6 x8) fun x9 =>
      if x9 = true then
        some true
      else
        some false
    else
      some false

def s_l2Ints (list : List Int) : Option (List Int) :=
  chk ((([] : List Int).length + list.length) * 8 ≤ 140737488355328) <|
  some (([] : List Int) ++ list)

end Go.Abs
