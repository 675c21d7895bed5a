/-
  Programs, made by wip/gen: B
-/
import Derived.Test.YtiecdekmiabmkaaGpA
set_option linter.unusedVariables false
set_option linter.unusedSimpArgs false
namespace Go.Abs
set_option linter.unusedVariables false

def i_StackDepths_L1b (m : PImage) (code : Int) (go4 : Int → Option (List Int × Bool)) (k3 : Int) : Option (List Int × Bool) :=
  if k3 ≤ code then
    bnd (i_codeOk m k3) fun x5 =>
    if x5 = true then
      chk (I64 (k3 + 1)) <|
      go4 (k3 + 1)
    else
      some ([], false)
  else
    bnd (i_depthsOf m code) fun x5 =>
    some (x5.1, x5.2)

def i_StackDepths_L1 (m : PImage) (code : Int) (go : Int → Option (List Int × Bool)) (v : Int) : Option (List Int × Bool) :=
  match v with
  | k3 => i_StackDepths_L1b m code go k3

def i_StackDepths (m : PImage) (code : Int) : Option (List Int × Bool) :=
  if code < 0 then
    some ([], false)
  else
    if code ≥ (m.codes.length : Int) then
      some ([], false)
    else
      itr (i_StackDepths_L1 m code) LF 0

def s_HasScope_L1b (list : List Int) (x_1 : Int) (go4 : Int → Option Bool) (x3 : Int) : Option Bool :=
  if x3 < (list.length : Int) then
    bnd (nth list x3) fun x5 =>
    if x5 = x_1 then
      some true
    else
      chk (I64 (x3 + 1)) <|
      go4 (x3 + 1)
  else
    some false

def s_HasScope_L1 (list : List Int) (x_1 : Int) (go : Int → Option Bool) (v : Int) : Option Bool :=
  match v with
  | x3 => s_HasScope_L1b list x_1 go x3

def s_HasScope (list : List Int) (x_1 : Int) : Option Bool :=
  itr (s_HasScope_L1 list x_1) LF 0

end Go.Abs
