/-
  Programs, made by wip/gen: E
-/
import Derived.Test.YtiecdekmiabmkaaGpD
set_option linter.unusedVariables false
set_option linter.unusedSimpArgs false
namespace Go.Abs
set_option linter.unusedVariables false

def w_FnExactIsImage (aM : PImage) (aCaptures : Int) : Option Bool :=
  bnd (w_szImage aM 1048576) fun x3 =>
  if x3 < 0 then
    some true
  else
    bnd (w_toImage aM) fun x4 =>
    bnd (s_IsImage x4 aCaptures) fun x5 =>
    bnd (w_toImage aM) fun x6 =>
    bnd (i_IsImage x6 aCaptures) fun x7 =>
    if x7 = x5 then
      bnd (w_toImage aM) fun x8 =>
      bnd (w_eqImage x6 x8) fun x9 =>
      if x9 = true then
        some true
      else
        some false
    else
      some false

def w_FnExactEqualImages (aA : PImage) (aB : PImage) : Option Bool :=
  bnd (w_szImage aA 1048576) fun x3 =>
  if x3 < 0 then
    some true
  else
    bnd (w_szImage aB x3) fun x4 =>
    if x4 < 0 then
      some true
    else
      bnd (w_toImage aA) fun x5 =>
      bnd (w_toImage aB) fun x6 =>
      bnd (s_EqualImages x5 x6) fun x7 =>
      bnd (w_toImage aA) fun x8 =>
      bnd (w_toImage aB) fun x9 =>
      bnd (i_EqualImages x8 x9) fun x10 =>
      if x10 = x7 then
        bnd (w_toImage aA) fun x11 =>
        bnd (w_eqImage x8 x11) fun x12 =>
        if x12 = true then
          bnd (w_toImage aB) fun x13 =>
          bnd (w_eqImage x9 x13) fun x14 =>
          if x14 = true then
            some true
          else
            some false
        else
          some false
      else
        some false

def s_l2Ints (list : List Int) : Option (List Int) :=
  chk ((([] : List Int).length + list.length) * 8 ≤ 140737488355328) <|
  some (([] : List Int) ++ list)

end Go.Abs
