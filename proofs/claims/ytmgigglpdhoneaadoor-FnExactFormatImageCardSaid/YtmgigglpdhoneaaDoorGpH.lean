/-
  Programs, made by wip/gen: H
-/
import Derived.Test.YtmgigglpdhoneaaDoorGpG
set_option linter.unusedVariables false
set_option linter.unusedSimpArgs false
namespace Go.Abs
set_option linter.unusedVariables false

def w_eqStringS_L1b (a : List (List UInt8)) (b : List (List UInt8)) (go4 : Int → Option Bool) (i3 : Int) : Option Bool :=
  if i3 < (a.length : Int) then
    bnd (nth a i3) fun x5 =>
    bnd (nth b i3) fun x6 =>
    if x5 = x6 then
      chk (I64 (i3 + 1)) <|
      go4 (i3 + 1)
    else
      some false
  else
    some true

def w_eqStringS_L1 (a : List (List UInt8)) (b : List (List UInt8)) (go : Int → Option Bool) (v : Int) : Option Bool :=
  match v with
  | i3 => w_eqStringS_L1b a b go i3

def w_eqStringS (a : List (List UInt8)) (b : List (List UInt8)) : Option Bool :=
  if (a.length : Int) = (b.length : Int) then
    itr (w_eqStringS_L1 a b) LF 0
  else
    some false

def w_markStringS_L1b (go6 : (Int × Int × List (List UInt8)) → Option (Int × List (List UInt8))) (k3 : Int) (i4 : Int) (a5 : List (List UInt8)) : Option (Int × List (List UInt8)) :=
  if i4 < (a5.length : Int) then
    bnd (w_markText k3) fun x7 =>
    bnd (nth a5 i4) fun x8 =>
    chk (I64 (k3 + 1)) <|
    chk (I64 (i4 + 1)) <|
    go6 ((k3 + 1), (i4 + 1), (a5.set i4.toNat x7))
  else
    some (k3, a5)

def w_markStringS_L1 (go : (Int × Int × List (List UInt8)) → Option (Int × List (List UInt8))) (v : Int × Int × List (List UInt8)) : Option (Int × List (List UInt8)) :=
  match v with
  | (k3, i4, a5) => w_markStringS_L1b go k3 i4 a5

def w_markStringS (a : List (List UInt8)) (k : Int) : Option (Int × List (List UInt8)) :=
  itr w_markStringS_L1 LF (k, 0, a)

def w_heldStringS_L1b (a : List (List UInt8)) (go5 : (Int × Int) → Option Int) (k3 : Int) (i4 : Int) : Option Int :=
  if i4 < (a.length : Int) then
    bnd (nth a i4) fun x6 =>
    bnd (w_markText k3) fun x7 =>
    if x6 = x7 then
      chk (I64 (k3 + 1)) <|
      chk (I64 (i4 + 1)) <|
      go5 ((k3 + 1), (i4 + 1))
    else
      some (-1)
  else
    some k3

def w_heldStringS_L1 (a : List (List UInt8)) (go : (Int × Int) → Option Int) (v : Int × Int) : Option Int :=
  match v with
  | (k3, i4) => w_heldStringS_L1b a go k3 i4

def w_heldStringS (a : List (List UInt8)) (k : Int) : Option Int :=
  itr (w_heldStringS_L1 a) LF (k, 0)

end Go.Abs
