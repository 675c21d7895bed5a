/-
  Programs, made by wip/gen: B
-/
import Derived.Test.YtiecdekmiabmkaaGpA
set_option linter.unusedVariables false
set_option linter.unusedSimpArgs false
namespace Go.Abs
set_option linter.unusedVariables false

def i_isShortName (s : List UInt8) : Option Bool :=
  bnd (i_IsSymbol s) fun x2 =>
  if x2 = true then
    some (decide ((s.length : Int) ≤ 8))
  else
    some false

def i_differentVariables_L2b (x2 : Int) (go4 : (Int × (List (Int × Int))) → Option Bool) (x5 : List Int) (go8 : (Int × (List (Int × Int))) → Option Bool) (x6 : Int) (seen7 : List (Int × Int)) : Option Bool :=
  if x6 < (x5.length : Int) then
    bnd (nth x5 x6) fun x9 =>
    if x9 < 0 then
      some false
    else
      if x9 > 99999 then
        some false
      else
        if (mget seen7 x9) = 1 then
          some false
        else
          chk (I64 (x6 + 1)) <|
          go8 ((x6 + 1), (mput seen7 x9 1))
  else
    chk (I64 (x2 + 1)) <|
    go4 ((x2 + 1), seen7)

def i_differentVariables_L2 (x2 : Int) (go4 : (Int × (List (Int × Int))) → Option Bool) (x5 : List Int) (go : (Int × (List (Int × Int))) → Option Bool) (v : Int × (List (Int × Int))) : Option Bool :=
  match v with
  | (x6, seen7) => i_differentVariables_L2b x2 go4 x5 go x6 seen7

def i_differentVariables_L1b (lists : List (List Int)) (go4 : (Int × (List (Int × Int))) → Option Bool) (x2 : Int) (seen3 : List (Int × Int)) : Option Bool :=
  if x2 < (lists.length : Int) then
    bnd (nth lists x2) fun x5 =>
    itr (i_differentVariables_L2 x2 go4 x5) LF (0, seen3)
  else
    some true

def i_differentVariables_L1 (lists : List (List Int)) (go : (Int × (List (Int × Int))) → Option Bool) (v : Int × (List (Int × Int))) : Option Bool :=
  match v with
  | (x2, seen3) => i_differentVariables_L1b lists go x2 seen3

def i_differentVariables (lists : List (List Int)) : Option Bool :=
  itr (i_differentVariables_L1 lists) LF (0, ([] : List (Int × Int)))

def i_IsObject (o : PObj) : Option Bool :=
  bnd (i_isShortName o.name) fun x2 =>
  if x2 = true then
    bnd (i_differentVariables ([o.defines, o.uses] : List (List Int))) fun x3 =>
    if x3 = true then
      chk (I64 ((o.defines.length : Int) + (o.uses.length : Int))) <|
      bnd (i_IsImage o.image ((o.defines.length : Int) + (o.uses.length : Int))) fun x4 =>
      some x4
    else
      some false
  else
    some false

def s_HasScope_L1b (list : List Int) (x_1 : Int) (go4 : Int → Option Bool) (x3 : Int) : Option Bool :=
  if x3 < (list.length : Int) then
    bnd (nth list x3) fun x5 =>
    if x5 = x_1 then
      some true
    else
      chk (I64 (x3 + 1)) <|
      go4 (x3 + 1)
  else
    some false

def s_HasScope_L1 (list : List Int) (x_1 : Int) (go : Int → Option Bool) (v : Int) : Option Bool :=
  match v with
  | x3 => s_HasScope_L1b list x_1 go x3

def s_HasScope (list : List Int) (x_1 : Int) : Option Bool :=
  itr (s_HasScope_L1 list x_1) LF 0

end Go.Abs
