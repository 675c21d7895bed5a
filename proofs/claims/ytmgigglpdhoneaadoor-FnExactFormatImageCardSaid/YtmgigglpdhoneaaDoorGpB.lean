/-
  Programs, made by wip/gen: B
-/
import Derived.Test.YtmgigglpdhoneaaDoorGpA
set_option linter.unusedVariables false
set_option linter.unusedSimpArgs false
namespace Go.Abs
set_option linter.unusedVariables false

def i_depthsOf_J3 (x8 : Int) (go10 : (Int × List Int) → Option (List Int × Bool)) (out11 : List Int) : Option (List Int × Bool) :=
  chk (I64 (x8 + 1)) <|
  go10 ((x8 + 1), out11)

def i_depthsOf_J6 (x13 : Int × Int) (x15 : Int) (x17 : Int) (out18 : List Int) (go19 : (Int × List Int) → Option (List Int × Bool)) (x20 : Int) (x21 : Bool) : Option (List Int × Bool) :=
  if x21 = true then
    some ([], false)
  else
    bnd (nth out18 x20) fun x22 =>
    chk (I64 (x17 + 1)) <|
    go19 ((x17 + 1), (out18.set x20.toNat ((x15 - x13.1) + x13.2)))

def i_depthsOf_L5b (x3 : PCode) (x8 : Int) (go10 : (Int × List Int) → Option (List Int × Bool)) (x13 : Int × Int) (x15 : Int) (next16 : List Int) (go19 : (Int × List Int) → Option (List Int × Bool)) (x17 : Int) (out18 : List Int) : Option (List Int × Bool) :=
  if x17 < (next16.length : Int) then
    bnd (nth next16 x17) fun x20 =>
    if x20 ≤ x8 then
      i_depthsOf_J6 x13 x15 x17 out18 go19 x20 true
    else
      if x20 ≥ (x3.instrs.length : Int) then
        i_depthsOf_J6 x13 x15 x17 out18 go19 x20 true
      else
        bnd (nth out18 x20) fun x21 =>
        if x21 ≥ 0 then
          bnd (nth out18 x20) fun x22 =>
          i_depthsOf_J6 x13 x15 x17 out18 go19 x20 (!decide (x22 = ((x15 - x13.1) + x13.2)))
        else
          i_depthsOf_J6 x13 x15 x17 out18 go19 x20 false
  else
    i_depthsOf_J3 x8 go10 out18

def i_depthsOf_L5 (x3 : PCode) (x8 : Int) (go10 : (Int × List Int) → Option (List Int × Bool)) (x13 : Int × Int) (x15 : Int) (next16 : List Int) (go : (Int × List Int) → Option (List Int × Bool)) (v : Int × List Int) : Option (List Int × Bool) :=
  match v with
  | (x17, out18) => i_depthsOf_L5b x3 x8 go10 x13 x15 next16 go x17 out18

def i_depthsOf_J4 (x3 : PCode) (x8 : Int) (out9 : List Int) (go10 : (Int × List Int) → Option (List Int × Bool)) (x13 : Int × Int) (x15 : Int) (next16 : List Int) : Option (List Int × Bool) :=
  itr (i_depthsOf_L5 x3 x8 go10 x13 x15 next16) LF (0, out9)

def i_depthsOf_J7 (x3 : PCode) (x8 : Int) (out9 : List Int) (go10 : (Int × List Int) → Option (List Int × Bool)) (x11 : PInstr) (x13 : Int × Int) (x15 : Int) (x16 : Bool) : Option (List Int × Bool) :=
  if x16 = true then
    if ((x15 - x13.1) + x13.2) = 0 then
      i_depthsOf_J4 x3 x8 out9 go10 x13 x15 []
    else
      some ([], false)
  else
    if x11.op = 15 then
      i_depthsOf_J4 x3 x8 out9 go10 x13 x15 ([x11.a] : List Int)
    else
      if x11.op = 16 then
        chk (I64 (x8 + 1)) <|
        i_depthsOf_J4 x3 x8 out9 go10 x13 x15 ([(x8 + 1), x11.a] : List Int)
      else
        chk (I64 (x8 + 1)) <|
        i_depthsOf_J4 x3 x8 out9 go10 x13 x15 ([(x8 + 1)] : List Int)

def i_depthsOf_L2b (m : PImage) (x3 : PCode) (go10 : (Int × List Int) → Option (List Int × Bool)) (x8 : Int) (out9 : List Int) : Option (List Int × Bool) :=
  if x8 < (x3.instrs.length : Int) then
    bnd (nth x3.instrs x8) fun x11 =>
    bnd (nth out9 x8) fun x12 =>
    if x12 < 0 then
      i_depthsOf_J3 x8 go10 out9
    else
      bnd (i_effect m x11) fun x13 =>
      bnd (nth out9 x8) fun x14 =>
      if x13.1 > x14 then
        some ([], false)
      else
        bnd (nth out9 x8) fun x15 =>
        chk (I64 (x15 - x13.1)) <|
        chk (I64 ((x15 - x13.1) + x13.2)) <|
        if ((x15 - x13.1) + x13.2) > 500 then
          some ([], false)
        else
          if x11.op = 14 then
            i_depthsOf_J7 x3 x8 out9 go10 x11 x13 x15 true
          else
            i_depthsOf_J7 x3 x8 out9 go10 x11 x13 x15 (decide (x11.op = 13))
  else
    some (out9, true)

def i_depthsOf_L2 (m : PImage) (x3 : PCode) (go : (Int × List Int) → Option (List Int × Bool)) (v : Int × List Int) : Option (List Int × Bool) :=
  match v with
  | (x8, out9) => i_depthsOf_L2b m x3 go x8 out9

def i_depthsOf_L1b (m : PImage) (x3 : PCode) (go6 : (Int × List Int) → Option (List Int × Bool)) (x4 : Int) (out5 : List Int) : Option (List Int × Bool) :=
  if x4 < ((List.replicate (x3.instrs.length : Int).toNat (0 : Int)).length : Int) then
    bnd (nth out5 x4) fun x7 =>
    chk (I64 (x4 + 1)) <|
    go6 ((x4 + 1), (out5.set x4.toNat (-1)))
  else
    bnd (nth out5 0) fun x7 =>
    itr (i_depthsOf_L2 m x3) LF (0, (out5.set (0 : Int).toNat 0))

def i_depthsOf_L1 (m : PImage) (x3 : PCode) (go : (Int × List Int) → Option (List Int × Bool)) (v : Int × List Int) : Option (List Int × Bool) :=
  match v with
  | (x4, out5) => i_depthsOf_L1b m x3 go x4 out5

def i_depthsOf (m : PImage) (code : Int) : Option (List Int × Bool) :=
  bnd (nth m.codes code) fun x3 =>
  chk (0 ≤ (x3.instrs.length : Int) ∧ (8 : Nat) * (x3.instrs.length : Int) ≤ 281474976710656 ∧ (x3.instrs.length : Int) ≤ 281474976710656) <|
  itr (i_depthsOf_L1 m x3) LF (0, (List.replicate (x3.instrs.length : Int).toNat (0 : Int)))

def i_StackDepths_L1b (m : PImage) (code : Int) (go4 : Int → Option (List Int × Bool)) (k3 : Int) : Option (List Int × Bool) :=
  if k3 ≤ code then
    bnd (i_codeOk m k3) fun x5 =>
    if x5 = true then
      chk (I64 (k3 + 1)) <|
      go4 (k3 + 1)
    else
      some ([], false)
  else
    bnd (i_depthsOf m code) fun x5 =>
    some (x5.1, x5.2)

def i_StackDepths_L1 (m : PImage) (code : Int) (go : Int → Option (List Int × Bool)) (v : Int) : Option (List Int × Bool) :=
  match v with
  | k3 => i_StackDepths_L1b m code go k3

def i_StackDepths (m : PImage) (code : Int) : Option (List Int × Bool) :=
  if code < 0 then
    some ([], false)
  else
    if code ≥ (m.codes.length : Int) then
      some ([], false)
    else
      itr (i_StackDepths_L1 m code) LF 0

def i_IsImage_J3 (x12 : Int) (go14 : (Int × List Int) → Option Bool) (named15 : List Int) : Option Bool :=
  chk (I64 (x12 + 1)) <|
  go14 ((x12 + 1), named15)

def i_IsImage_L2b (total5 : Int) (x6 : Int) (go8 : (Int × Int × List Int) → Option Bool) (x9 : PCode) (go14 : (Int × List Int) → Option Bool) (x12 : Int) (named13 : List Int) : Option Bool :=
  if x12 < (x9.instrs.length : Int) then
    bnd (nth x9.instrs x12) fun x15 =>
    bnd (i_namesCode x15.op) fun x16 =>
    if x16 = true then
      bnd (nth named13 x15.a) fun x17 =>
      chk (I64 (x17 + 1)) <|
      bnd (nth named13 x15.a) fun x18 =>
      i_IsImage_J3 x12 go14 (named13.set x15.a.toNat (x17 + 1))
    else
      i_IsImage_J3 x12 go14 named13
  else
    chk (I64 (x6 + 1)) <|
    go8 ((total5 + (x9.instrs.length : Int)), (x6 + 1), named13)

def i_IsImage_L2 (total5 : Int) (x6 : Int) (go8 : (Int × Int × List Int) → Option Bool) (x9 : PCode) (go : (Int × List Int) → Option Bool) (v : Int × List Int) : Option Bool :=
  match v with
  | (x12, named13) => i_IsImage_L2b total5 x6 go8 x9 go x12 named13

def i_IsImage_L4b (m : PImage) (total5 : Int) (named7 : List Int) (go10 : Int → Option Bool) (x9 : Int) : Option Bool :=
  if x9 < ((named7.take ((m.codes.length : Int) - 1).toNat).length : Int) then
    bnd (nth (named7.take ((m.codes.length : Int) - 1).toNat) x9) fun x11 =>
    if x11 = 1 then
      chk (I64 (x9 + 1)) <|
      go10 (x9 + 1)
    else
      some false
  else
    some (decide (total5 ≤ 16000))

def i_IsImage_L4 (m : PImage) (total5 : Int) (named7 : List Int) (go : Int → Option Bool) (v : Int) : Option Bool :=
  match v with
  | x9 => i_IsImage_L4b m total5 named7 go x9

def i_IsImage_L1b (m : PImage) (go8 : (Int × Int × List Int) → Option Bool) (total5 : Int) (x6 : Int) (named7 : List Int) : Option Bool :=
  if x6 < (m.codes.length : Int) then
    bnd (nth m.codes x6) fun x9 =>
    bnd (i_codeOk m x6) fun x10 =>
    if x10 = true then
      bnd (i_depthsOf m x6) fun x11 =>
      if x11.2 = true then
        chk (I64 (total5 + (x9.instrs.length : Int))) <|
        itr (i_IsImage_L2 total5 x6 go8 x9) LF (0, named7)
      else
        some false
    else
      some false
  else
    chk (I64 ((m.codes.length : Int) - 1)) <|
    chk (0 ≤ ((m.codes.length : Int) - 1) ∧ ((m.codes.length : Int) - 1) ≤ named7.length) <|
    itr (i_IsImage_L4 m total5 named7) LF 0

def i_IsImage_L1 (m : PImage) (go : (Int × Int × List Int) → Option Bool) (v : Int × Int × List Int) : Option Bool :=
  match v with
  | (total5, x6, named7) => i_IsImage_L1b m go total5 x6 named7

def i_IsImage (m : PImage) (captures : Int) : Option Bool :=
  if (m.codes.length : Int) < 1 then
    some false
  else
    if (m.codes.length : Int) > 1500 then
      some false
    else
      chk (I64 ((m.codes.length : Int) - 1)) <|
      if m.main = ((m.codes.length : Int) - 1) then
        chk (I64 ((m.codes.length : Int) - 1)) <|
        bnd (nth m.codes ((m.codes.length : Int) - 1)) fun x3 =>
        if x3.params = 0 then
          chk (I64 ((m.codes.length : Int) - 1)) <|
          bnd (nth m.codes ((m.codes.length : Int) - 1)) fun x4 =>
          if x4.captures = captures then
            chk (0 ≤ (m.codes.length : Int) ∧ (8 : Nat) * (m.codes.length : Int) ≤ 281474976710656 ∧ (m.codes.length : Int) ≤ 281474976710656) <|
            itr (i_IsImage_L1 m) LF (0, 0, (List.replicate (m.codes.length : Int).toNat (0 : Int)))
          else
            some false
        else
          some false
      else
        some false

def i_EqualImages_L2b (a : PImage) (x3 : Int) (go4 : Int → Option Bool) (x5 : PCode) (x6 : PCode) (go8 : Int → Option Bool) (x7 : Int) : Option Bool :=
  if x7 < (x5.instrs.length : Int) then
    bnd (nth x5.instrs x7) fun x9 =>
    bnd (nth x6.instrs x7) fun x10 =>
    if x9.op = x10.op then
      bnd (nth x5.instrs x7) fun x11 =>
      bnd (nth x6.instrs x7) fun x12 =>
      if x11.a = x12.a then
        bnd (nth x5.instrs x7) fun x13 =>
        bnd (nth x6.instrs x7) fun x14 =>
        bnd (i_EqualData RF x13.d x14.d) fun x15 =>
        if x15 = true then
          chk (I64 (x7 + 1)) <|
          go8 (x7 + 1)
        else
          some false
      else
        some false
    else
      some false
  else
    chk (I64 (x3 + 1)) <|
    go4 (x3 + 1)

def i_EqualImages_L2 (a : PImage) (x3 : Int) (go4 : Int → Option Bool) (x5 : PCode) (x6 : PCode) (go : Int → Option Bool) (v : Int) : Option Bool :=
  match v with
  | x7 => i_EqualImages_L2b a x3 go4 x5 x6 go x7

def i_EqualImages_L1b (a : PImage) (b : PImage) (go4 : Int → Option Bool) (x3 : Int) : Option Bool :=
  if x3 < (a.codes.length : Int) then
    bnd (nth a.codes x3) fun x5 =>
    bnd (nth b.codes x3) fun x6 =>
    if x5.params = x6.params then
      if x5.slots = x6.slots then
        if x5.captures = x6.captures then
          if (x5.instrs.length : Int) = (x6.instrs.length : Int) then
            itr (i_EqualImages_L2 a x3 go4 x5 x6) LF 0
          else
            some false
        else
          some false
      else
        some false
    else
      some false
  else
    some true

def i_EqualImages_L1 (a : PImage) (b : PImage) (go : Int → Option Bool) (v : Int) : Option Bool :=
  match v with
  | x3 => i_EqualImages_L1b a b go x3

def i_EqualImages (a : PImage) (b : PImage) : Option Bool :=
  if a.main = b.main then
    if (a.codes.length : Int) = (b.codes.length : Int) then
      itr (i_EqualImages_L1 a b) LF 0
    else
      some false
  else
    some false

def i_isShortName (s : List UInt8) : Option Bool :=
  bnd (i_IsSymbol s) fun x2 =>
  if x2 = true then
    some (decide ((s.length : Int) ≤ 8))
  else
    some false

end Go.Abs
