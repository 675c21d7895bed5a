
import Derived.Test.YtmgigglpdhoneaaGreatDoorLibD
import Derived.Test.YtmgigglpdhoneaaGreatDoorLibE
import Derived.Test.YtmgigglpdhoneaaGreatDoorLibV
set_option linter.unusedVariables false
set_option linter.unusedSimpArgs false
namespace Go.Abs
set_option linter.unusedVariables false
def i_isDigit (b : Int) : Option Bool :=
 if b ≥ 48 then
  some (decide (b ≤ 57))
 else
  some false
def i_symbolByte_J1 (b : Int) (x2 : Bool) : Option Bool :=
 if x2 = true then
  some true
 else
  if b = 33 then
   some true
  else
   if b = 63 then
    some true
   else
    if b = 42 then
     some true
    else
     if b = 60 then
      some true
     else
      if b = 62 then
       some true
      else
       if b = 61 then
        some true
       else
        if b = 47 then
         some true
        else
         if b = 43 then
          some true
         else
          if b = 45 then
           some true
          else
           if b = 46 then
            some true
           else
            if b = 95 then
             some true
            else
             some false
def i_symbolByte (b : Int) : Option Bool :=
 if b ≥ 97 then
  if b ≤ 122 then
   i_symbolByte_J1 b true
  else
   if b ≥ 48 then
    i_symbolByte_J1 b (decide (b ≤ 57))
   else
    i_symbolByte_J1 b false
 else
  if b ≥ 48 then
   i_symbolByte_J1 b (decide (b ≤ 57))
  else
   i_symbolByte_J1 b false
def i_IsSymbol_L2b (s : List UInt8) (go4 : Int → Option Bool) (i3 : Int) : Option Bool :=
 if i3 < (s.length : Int) then
  bnd (nth s i3) fun x5 =>
  bnd (i_symbolByte (x5.toNat : Int)) fun x6 =>
  if x6 = true then
   chk (I64 (i3 + 1)) <|
   go4 (i3 + 1)
  else
   some false
 else
  some true
def i_IsSymbol_L2 (s : List UInt8) (go : Int → Option Bool) (v : Int) : Option Bool :=
 match v with
 | i3 => i_IsSymbol_L2b s go i3
def i_IsSymbol_J1 (s : List UInt8) (x2 : Bool) : Option Bool :=
 if x2 = true then
  some false
 else
  itr (i_IsSymbol_L2 s) LF 0
def i_IsSymbol (s : List UInt8) : Option Bool :=
 if (s.length : Int) < 1 then
  i_IsSymbol_J1 s true
 else
  if (s.length : Int) > 16 then
   i_IsSymbol_J1 s true
  else
   bnd (nth s 0) fun x2 =>
   bnd (i_isDigit (x2.toNat : Int)) fun x3 =>
   if x3 = true then
    i_IsSymbol_J1 s true
   else
    bnd (nth s 0) fun x4 =>
    if (x4.toNat : Int) = 45 then
     if (s.length : Int) > 1 then
      bnd (nth s 1) fun x5 =>
      bnd (i_isDigit (x5.toNat : Int)) fun x6 =>
      i_IsSymbol_J1 s x6
     else
      i_IsSymbol_J1 s false
    else
     i_IsSymbol_J1 s false
def i_stringText_L1b (s : List UInt8) (go3 : Int → Option Bool) (i2 : Int) : Option Bool :=
 if i2 < (s.length : Int) then
  bnd (nth s i2) fun x4 =>
  if (x4.toNat : Int) < 32 then
   some false
  else
   bnd (nth s i2) fun x5 =>
   if (x5.toNat : Int) > 126 then
    some false
   else
    bnd (nth s i2) fun x6 =>
    if (x6.toNat : Int) = 34 then
     some false
    else
     chk (I64 (i2 + 1)) <|
     go3 (i2 + 1)
 else
  some true
def i_stringText_L1 (s : List UInt8) (go : Int → Option Bool) (v : Int) : Option Bool :=
 match v with
 | i2 => i_stringText_L1b s go i2
def i_stringText (s : List UInt8) : Option Bool :=
 if (s.length : Int) > 20 then
  some false
 else
  itr (i_stringText_L1 s) LF 0
def i_rightNode (kind : Int) (number : Int) (text : List UInt8) (items : Int) : Option Bool :=
 if kind = 0 then
  if number = 0 then
   some (decide (text = ([] : List UInt8)))
  else
   some false
 else
  if kind = 1 then
   if number = 0 then
    if items = 0 then
     bnd (i_IsSymbol text) fun x5 =>
     some x5
    else
     some false
   else
    some false
  else
   if kind = 2 then
    if number ≥ (-999999999) then
     if number ≤ 999999999 then
      if text = ([] : List UInt8) then
       some (decide (items = 0))
      else
       some false
     else
      some false
    else
     some false
   else
    if kind = 3 then
     if number = 0 then
      if text = ([] : List UInt8) then
       some (decide (items = 0))
      else
       some false
     else
      if number = 1 then
       if text = ([] : List UInt8) then
        some (decide (items = 0))
       else
        some false
      else
       some false
    else
     if kind = 4 then
      if number = 0 then
       if items = 0 then
        bnd (i_stringText text) fun x5 =>
        some x5
       else
        some false
      else
       some false
     else
      some false
def i_measure_L1b (i_measure : PDat → Int → Int → Option (Bool × Int)) (d : PDat) (deep : Int) (go8 : (Int × Int) → Option (Bool × Int)) (x6 : Int) (nodes7 : Int) : Option (Bool × Int) :=
 if x6 < (d.items.length : Int) then
  bnd (nth d.items x6) fun x9 =>
  chk (I64 (deep + 1)) <|
  bnd (i_measure x9 (deep + 1) nodes7) fun x10 =>
  if x10.1 = true then
   chk (I64 (x6 + 1)) <|
   go8 ((x6 + 1), x10.2)
  else
   some (false, x10.2)
 else
  some (true, nodes7)
def i_measure_L1 (i_measure : PDat → Int → Int → Option (Bool × Int)) (d : PDat) (deep : Int) (go : (Int × Int) → Option (Bool × Int)) (v : Int × Int) : Option (Bool × Int) :=
 match v with
 | (x6, nodes7) => i_measure_L1b i_measure d deep go x6 nodes7
def i_measure_b (i_measure : PDat → Int → Int → Option (Bool × Int)) (d : PDat) (deep : Int) (nodes : Int) : Option (Bool × Int) :=
 chk (I64 (nodes + 1)) <|
 if deep > 20 then
  some (false, (nodes + 1))
 else
  if (nodes + 1) > 600 then
   some (false, (nodes + 1))
  else
   bnd (i_rightNode d.kind d.number d.text (d.items.length : Int)) fun x5 =>
   if x5 = true then
    itr (i_measure_L1 i_measure d deep) LF (0, (nodes + 1))
   else
    some (false, (nodes + 1))
def i_measure : Nat → PDat → Int → Int → Option (Bool × Int)
 | 0, _, _, _ => none
 | n + 1, d, deep, nodes => i_measure_b (i_measure n) d deep nodes
def i_IsDatum (d : PDat) : Option Bool :=
 bnd (i_measure RF d 1 0) fun x2 =>
 some x2.1
def i_EqualData_L1b (i_EqualData : PDat → PDat → Option Bool) (a : PDat) (b : PDat) (go5 : Int → Option Bool) (x4 : Int) : Option Bool :=
 if x4 < (a.items.length : Int) then
  bnd (nth a.items x4) fun x6 =>
  bnd (nth b.items x4) fun x7 =>
  bnd (i_EqualData x6 x7) fun x8 =>
  if x8 = true then
   chk (I64 (x4 + 1)) <|
   go5 (x4 + 1)
  else
   some false
 else
  some true
def i_EqualData_L1 (i_EqualData : PDat → PDat → Option Bool) (a : PDat) (b : PDat) (go : Int → Option Bool) (v : Int) : Option Bool :=
 match v with
 | x4 => i_EqualData_L1b i_EqualData a b go x4
def i_EqualData_b (i_EqualData : PDat → PDat → Option Bool) (a : PDat) (b : PDat) : Option Bool :=
 if a.kind = b.kind then
  if a.number = b.number then
   if a.text = b.text then
    if (a.items.length : Int) = (b.items.length : Int) then
     itr (i_EqualData_L1 i_EqualData a b) LF 0
    else
     some false
   else
    some false
  else
   some false
 else
  some false
def i_EqualData : Nat → PDat → PDat → Option Bool
 | 0, _, _ => none
 | n + 1, a, b => i_EqualData_b (i_EqualData n) a b
def i_instrOk (x_1 : PInstr) : Option Bool :=
 if x_1.op < 1 then
  some false
 else
  if x_1.op > 20 then
   some false
  else
   if x_1.op = 1 then
    if x_1.a = 0 then
     bnd (i_IsDatum x_1.d) fun x2 =>
     some x2
    else
     some false
   else
    bnd (i_EqualData RF x_1.d (PDat.mk 0 0 ([] : List UInt8) [])) fun x2 =>
    if x2 = true then
     if x_1.a < 0 then
      some false
     else
      if x_1.a > 4000 then
       some false
      else
       if x_1.a = 0 then
        some true
       else
        if x_1.op = 14 then
         some false
        else
         some (!decide (x_1.op = 17))
    else
     some false
def i_PrimitiveNames : Option (List (List UInt8)) :=
 some ([([43] : List UInt8), ([45] : List UInt8), ([42] : List UInt8), ([61] : List UInt8), ([60] : List UInt8), ([99, 111, 110, 115] : List UInt8), ([99, 97, 114] : List UInt8), ([99, 100, 114] : List UInt8), ([110, 117, 108, 108, 63] : List UInt8), ([112, 97, 105, 114, 63] : List UInt8), ([110, 117, 109, 98, 101, 114, 63] : List UInt8), ([101, 113, 63] : List UInt8), ([110, 111, 116] : List UInt8), ([100, 105, 115, 112, 108, 97, 121] : List UInt8)] : List (List UInt8))
def i_operandOk_J1 (m : PImage) (k : Int) (x_1 : PInstr) (x5 : Bool) : Option Bool :=
 if x5 = true then
  if x_1.a < k then
   bnd (nth m.codes x_1.a) fun x6 =>
   some (decide (x6.params = 0))
  else
   some false
 else
  if x_1.op = 19 then
   if x_1.a < k then
    bnd (nth m.codes x_1.a) fun x6 =>
    some (decide (x6.params = 1))
   else
    some false
  else
   if x_1.op = 12 then
    some (decide (x_1.a ≤ 8))
   else
    if x_1.op = 13 then
     some (decide (x_1.a ≤ 8))
    else
     some true
def i_operandOk (m : PImage) (c : PCode) (k : Int) (x_1 : PInstr) : Option Bool :=
 if x_1.op = 2 then
  bnd (i_PrimitiveNames) fun x5 =>
  some (decide (x_1.a < (x5.length : Int)))
 else
  if x_1.op = 3 then
   some (decide (x_1.a < c.slots))
  else
   if x_1.op = 5 then
    some (decide (x_1.a < c.slots))
   else
    if x_1.op = 7 then
     some (decide (x_1.a < c.slots))
    else
     if x_1.op = 9 then
      if x_1.a ≥ c.params then
       some (decide (x_1.a < c.slots))
      else
       some false
     else
      if x_1.op = 10 then
       some (decide (x_1.a < c.params))
      else
       if x_1.op = 4 then
        some (decide (x_1.a < c.captures))
       else
        if x_1.op = 6 then
         some (decide (x_1.a < c.captures))
        else
         if x_1.op = 8 then
          some (decide (x_1.a < c.captures))
         else
          if x_1.op = 11 then
           some (decide (x_1.a < k))
          else
           if x_1.op = 18 then
            i_operandOk_J1 m k x_1 true
           else
            i_operandOk_J1 m k x_1 (decide (x_1.op = 20))
def i_codeOk_L1b (m : PImage) (k : Int) (x3 : PCode) (go5 : Int → Option Bool) (x4 : Int) : Option Bool :=
 if x4 < (x3.instrs.length : Int) then
  bnd (nth x3.instrs x4) fun x6 =>
  bnd (i_instrOk x6) fun x7 =>
  if x7 = true then
   bnd (i_operandOk m x3 k x6) fun x8 =>
   if x8 = true then
    chk (I64 (x4 + 1)) <|
    go5 (x4 + 1)
   else
    some false
  else
   some false
 else
  some true
def i_codeOk_L1 (m : PImage) (k : Int) (x3 : PCode) (go : Int → Option Bool) (v : Int) : Option Bool :=
 match v with
 | x4 => i_codeOk_L1b m k x3 go x4
def i_codeOk (m : PImage) (k : Int) : Option Bool :=
 bnd (nth m.codes k) fun x3 =>
 if x3.params < 0 then
  some false
 else
  if x3.params > 8 then
   some false
  else
   if x3.slots < x3.params then
    some false
   else
    if x3.slots > 500 then
     some false
    else
     if x3.captures < 0 then
      some false
     else
      if x3.captures > 500 then
       some false
      else
       if (x3.instrs.length : Int) < 1 then
        some false
       else
        if (x3.instrs.length : Int) > 4000 then
         some false
        else
         itr (i_codeOk_L1 m k x3) LF 0
def i_effect (m : PImage) (x_1 : PInstr) : Option (Int × Int) :=
 if x_1.op = 1 then
  some (0, 1)
 else
  if x_1.op = 2 then
   some (0, 1)
  else
   if x_1.op = 3 then
    some (0, 1)
   else
    if x_1.op = 4 then
     some (0, 1)
    else
     if x_1.op = 5 then
      some (0, 1)
     else
      if x_1.op = 6 then
       some (0, 1)
      else
       if x_1.op = 7 then
        some (1, 1)
       else
        if x_1.op = 8 then
         some (1, 1)
        else
         if x_1.op = 11 then
          bnd (nth m.codes x_1.a) fun x3 =>
          some (x3.captures, 1)
         else
          if x_1.op = 18 then
           bnd (nth m.codes x_1.a) fun x3 =>
           some (x3.captures, 1)
          else
           if x_1.op = 19 then
            bnd (nth m.codes x_1.a) fun x3 =>
            some (x3.captures, 1)
           else
            if x_1.op = 20 then
             bnd (nth m.codes x_1.a) fun x3 =>
             some (x3.captures, 1)
            else
             if x_1.op = 12 then
              chk (I64 (x_1.a + 1)) <|
              some ((x_1.a + 1), 1)
             else
              if x_1.op = 13 then
               chk (I64 (x_1.a + 1)) <|
               some ((x_1.a + 1), 0)
              else
               if x_1.op = 14 then
                some (1, 0)
               else
                if x_1.op = 17 then
                 some (1, 0)
                else
                 if x_1.op = 16 then
                  some (1, 0)
                 else
                  some (0, 0)
def i_depthsOf_J3 (x8 : Int) (go10 : (Int × List Int) → Option (List Int × Bool)) (out11 : List Int) : Option (List Int × Bool) :=
 chk (I64 (x8 + 1)) <|
 go10 ((x8 + 1), out11)
def i_depthsOf_J6 (x13 : Int × Int) (x15 : Int) (x17 : Int) (out18 : List Int) (go19 : (Int × List Int) → Option (List Int × Bool)) (x20 : Int) (x21 : Bool) : Option (List Int × Bool) :=
 if x21 = true then
  some ([], false)
 else
  bnd (nth out18 x20) fun x22 =>
  chk (I64 (x17 + 1)) <|
  go19 ((x17 + 1), (out18.set x20.toNat ((x15 - x13.1) + x13.2)))
def i_depthsOf_L5b (x3 : PCode) (x8 : Int) (go10 : (Int × List Int) → Option (List Int × Bool)) (x13 : Int × Int) (x15 : Int) (next16 : List Int) (go19 : (Int × List Int) → Option (List Int × Bool)) (x17 : Int) (out18 : List Int) : Option (List Int × Bool) :=
 if x17 < (next16.length : Int) then
  bnd (nth next16 x17) fun x20 =>
  if x20 ≤ x8 then
   i_depthsOf_J6 x13 x15 x17 out18 go19 x20 true
  else
   if x20 ≥ (x3.instrs.length : Int) then
    i_depthsOf_J6 x13 x15 x17 out18 go19 x20 true
   else
    bnd (nth out18 x20) fun x21 =>
    if x21 ≥ 0 then
     bnd (nth out18 x20) fun x22 =>
     i_depthsOf_J6 x13 x15 x17 out18 go19 x20 (!decide (x22 = ((x15 - x13.1) + x13.2)))
    else
     i_depthsOf_J6 x13 x15 x17 out18 go19 x20 false
 else
  i_depthsOf_J3 x8 go10 out18
def i_depthsOf_L5 (x3 : PCode) (x8 : Int) (go10 : (Int × List Int) → Option (List Int × Bool)) (x13 : Int × Int) (x15 : Int) (next16 : List Int) (go : (Int × List Int) → Option (List Int × Bool)) (v : Int × List Int) : Option (List Int × Bool) :=
 match v with
 | (x17, out18) => i_depthsOf_L5b x3 x8 go10 x13 x15 next16 go x17 out18
def i_depthsOf_J4 (x3 : PCode) (x8 : Int) (out9 : List Int) (go10 : (Int × List Int) → Option (List Int × Bool)) (x13 : Int × Int) (x15 : Int) (next16 : List Int) : Option (List Int × Bool) :=
 itr (i_depthsOf_L5 x3 x8 go10 x13 x15 next16) LF (0, out9)
def i_depthsOf_J7 (x3 : PCode) (x8 : Int) (out9 : List Int) (go10 : (Int × List Int) → Option (List Int × Bool)) (x11 : PInstr) (x13 : Int × Int) (x15 : Int) (x16 : Bool) : Option (List Int × Bool) :=
 if x16 = true then
  if ((x15 - x13.1) + x13.2) = 0 then
   i_depthsOf_J4 x3 x8 out9 go10 x13 x15 []
  else
   some ([], false)
 else
  if x11.op = 15 then
   i_depthsOf_J4 x3 x8 out9 go10 x13 x15 ([x11.a] : List Int)
  else
   if x11.op = 16 then
    chk (I64 (x8 + 1)) <|
    i_depthsOf_J4 x3 x8 out9 go10 x13 x15 ([(x8 + 1), x11.a] : List Int)
   else
    chk (I64 (x8 + 1)) <|
    i_depthsOf_J4 x3 x8 out9 go10 x13 x15 ([(x8 + 1)] : List Int)
def i_depthsOf_L2b (m : PImage) (x3 : PCode) (go10 : (Int × List Int) → Option (List Int × Bool)) (x8 : Int) (out9 : List Int) : Option (List Int × Bool) :=
 if x8 < (x3.instrs.length : Int) then
  bnd (nth x3.instrs x8) fun x11 =>
  bnd (nth out9 x8) fun x12 =>
  if x12 < 0 then
   i_depthsOf_J3 x8 go10 out9
  else
   bnd (i_effect m x11) fun x13 =>
   bnd (nth out9 x8) fun x14 =>
   if x13.1 > x14 then
    some ([], false)
   else
    bnd (nth out9 x8) fun x15 =>
    chk (I64 (x15 - x13.1)) <|
    chk (I64 ((x15 - x13.1) + x13.2)) <|
    if ((x15 - x13.1) + x13.2) > 500 then
     some ([], false)
    else
     if x11.op = 14 then
      i_depthsOf_J7 x3 x8 out9 go10 x11 x13 x15 true
     else
      i_depthsOf_J7 x3 x8 out9 go10 x11 x13 x15 (decide (x11.op = 13))
 else
  some (out9, true)
def i_depthsOf_L2 (m : PImage) (x3 : PCode) (go : (Int × List Int) → Option (List Int × Bool)) (v : Int × List Int) : Option (List Int × Bool) :=
 match v with
 | (x8, out9) => i_depthsOf_L2b m x3 go x8 out9
def i_depthsOf_L1b (m : PImage) (x3 : PCode) (go6 : (Int × List Int) → Option (List Int × Bool)) (x4 : Int) (out5 : List Int) : Option (List Int × Bool) :=
 if x4 < ((List.replicate (x3.instrs.length : Int).toNat (0 : Int)).length : Int) then
  bnd (nth out5 x4) fun x7 =>
  chk (I64 (x4 + 1)) <|
  go6 ((x4 + 1), (out5.set x4.toNat (-1)))
 else
  bnd (nth out5 0) fun x7 =>
  itr (i_depthsOf_L2 m x3) LF (0, (out5.set (0 : Int).toNat 0))
def i_depthsOf_L1 (m : PImage) (x3 : PCode) (go : (Int × List Int) → Option (List Int × Bool)) (v : Int × List Int) : Option (List Int × Bool) :=
 match v with
 | (x4, out5) => i_depthsOf_L1b m x3 go x4 out5
def i_depthsOf (m : PImage) (code : Int) : Option (List Int × Bool) :=
 bnd (nth m.codes code) fun x3 =>
 chk (0 ≤ (x3.instrs.length : Int) ∧ (8 : Nat) * (x3.instrs.length : Int) ≤ 281474976710656 ∧ (x3.instrs.length : Int) ≤ 281474976710656) <|
 itr (i_depthsOf_L1 m x3) LF (0, (List.replicate (x3.instrs.length : Int).toNat (0 : Int)))
def i_namesCode (op : Int) : Option Bool :=
 if op = 11 then
  some true
 else
  if op = 18 then
   some true
  else
   if op = 19 then
    some true
   else
    some (decide (op = 20))
def i_IsImage_J3 (x12 : Int) (go14 : (Int × List Int) → Option Bool) (named15 : List Int) : Option Bool :=
 chk (I64 (x12 + 1)) <|
 go14 ((x12 + 1), named15)
def i_IsImage_L2b (total5 : Int) (x6 : Int) (go8 : (Int × Int × List Int) → Option Bool) (x9 : PCode) (go14 : (Int × List Int) → Option Bool) (x12 : Int) (named13 : List Int) : Option Bool :=
 if x12 < (x9.instrs.length : Int) then
  bnd (nth x9.instrs x12) fun x15 =>
  bnd (i_namesCode x15.op) fun x16 =>
  if x16 = true then
   bnd (nth named13 x15.a) fun x17 =>
   chk (I64 (x17 + 1)) <|
   bnd (nth named13 x15.a) fun x18 =>
   i_IsImage_J3 x12 go14 (named13.set x15.a.toNat (x17 + 1))
  else
   i_IsImage_J3 x12 go14 named13
 else
  chk (I64 (x6 + 1)) <|
  go8 ((total5 + (x9.instrs.length : Int)), (x6 + 1), named13)
def i_IsImage_L2 (total5 : Int) (x6 : Int) (go8 : (Int × Int × List Int) → Option Bool) (x9 : PCode) (go : (Int × List Int) → Option Bool) (v : Int × List Int) : Option Bool :=
 match v with
 | (x12, named13) => i_IsImage_L2b total5 x6 go8 x9 go x12 named13
def i_IsImage_L4b (m : PImage) (total5 : Int) (named7 : List Int) (go10 : Int → Option Bool) (x9 : Int) : Option Bool :=
 if x9 < ((named7.take ((m.codes.length : Int) - 1).toNat).length : Int) then
  bnd (nth (named7.take ((m.codes.length : Int) - 1).toNat) x9) fun x11 =>
  if x11 = 1 then
   chk (I64 (x9 + 1)) <|
   go10 (x9 + 1)
  else
   some false
 else
  some (decide (total5 ≤ 16000))
def i_IsImage_L4 (m : PImage) (total5 : Int) (named7 : List Int) (go : Int → Option Bool) (v : Int) : Option Bool :=
 match v with
 | x9 => i_IsImage_L4b m total5 named7 go x9
def i_IsImage_L1b (m : PImage) (go8 : (Int × Int × List Int) → Option Bool) (total5 : Int) (x6 : Int) (named7 : List Int) : Option Bool :=
 if x6 < (m.codes.length : Int) then
  bnd (nth m.codes x6) fun x9 =>
  bnd (i_codeOk m x6) fun x10 =>
  if x10 = true then
   bnd (i_depthsOf m x6) fun x11 =>
   if x11.2 = true then
    chk (I64 (total5 + (x9.instrs.length : Int))) <|
    itr (i_IsImage_L2 total5 x6 go8 x9) LF (0, named7)
   else
    some false
  else
   some false
 else
  chk (I64 ((m.codes.length : Int) - 1)) <|
  chk (0 ≤ ((m.codes.length : Int) - 1) ∧ ((m.codes.length : Int) - 1) ≤ named7.length) <|
  itr (i_IsImage_L4 m total5 named7) LF 0
def i_IsImage_L1 (m : PImage) (go : (Int × Int × List Int) → Option Bool) (v : Int × Int × List Int) : Option Bool :=
 match v with
 | (total5, x6, named7) => i_IsImage_L1b m go total5 x6 named7
def i_IsImage (m : PImage) (captures : Int) : Option Bool :=
 if (m.codes.length : Int) < 1 then
  some false
 else
  if (m.codes.length : Int) > 1500 then
   some false
  else
   chk (I64 ((m.codes.length : Int) - 1)) <|
   if m.main = ((m.codes.length : Int) - 1) then
    chk (I64 ((m.codes.length : Int) - 1)) <|
    bnd (nth m.codes ((m.codes.length : Int) - 1)) fun x3 =>
    if x3.params = 0 then
     chk (I64 ((m.codes.length : Int) - 1)) <|
     bnd (nth m.codes ((m.codes.length : Int) - 1)) fun x4 =>
     if x4.captures = captures then
      chk (0 ≤ (m.codes.length : Int) ∧ (8 : Nat) * (m.codes.length : Int) ≤ 281474976710656 ∧ (m.codes.length : Int) ≤ 281474976710656) <|
      itr (i_IsImage_L1 m) LF (0, 0, (List.replicate (m.codes.length : Int).toNat (0 : Int)))
     else
      some false
    else
     some false
   else
    some false
end Go.Abs

namespace Go.Abs
set_option linter.unusedVariables false
def i_isShortName (s : List UInt8) : Option Bool :=
 bnd (i_IsSymbol s) fun x2 =>
 if x2 = true then
  some (decide ((s.length : Int) ≤ 8))
 else
  some false
def i_differentVariables_L2b (x2 : Int) (go4 : (Int × (List (Int × Int))) → Option Bool) (x5 : List Int) (go8 : (Int × (List (Int × Int))) → Option Bool) (x6 : Int) (seen7 : List (Int × Int)) : Option Bool :=
 if x6 < (x5.length : Int) then
  bnd (nth x5 x6) fun x9 =>
  if x9 < 0 then
   some false
  else
   if x9 > 99999 then
    some false
   else
    if (mget seen7 x9) = 1 then
     some false
    else
     chk (I64 (x6 + 1)) <|
     go8 ((x6 + 1), (mput seen7 x9 1))
 else
  chk (I64 (x2 + 1)) <|
  go4 ((x2 + 1), seen7)
def i_differentVariables_L2 (x2 : Int) (go4 : (Int × (List (Int × Int))) → Option Bool) (x5 : List Int) (go : (Int × (List (Int × Int))) → Option Bool) (v : Int × (List (Int × Int))) : Option Bool :=
 match v with
 | (x6, seen7) => i_differentVariables_L2b x2 go4 x5 go x6 seen7
def i_differentVariables_L1b (lists : List (List Int)) (go4 : (Int × (List (Int × Int))) → Option Bool) (x2 : Int) (seen3 : List (Int × Int)) : Option Bool :=
 if x2 < (lists.length : Int) then
  bnd (nth lists x2) fun x5 =>
  itr (i_differentVariables_L2 x2 go4 x5) LF (0, seen3)
 else
  some true
def i_differentVariables_L1 (lists : List (List Int)) (go : (Int × (List (Int × Int))) → Option Bool) (v : Int × (List (Int × Int))) : Option Bool :=
 match v with
 | (x2, seen3) => i_differentVariables_L1b lists go x2 seen3
def i_differentVariables (lists : List (List Int)) : Option Bool :=
 itr (i_differentVariables_L1 lists) LF (0, ([] : List (Int × Int)))
def i_IsObject (o : PObj) : Option Bool :=
 bnd (i_isShortName o.name) fun x2 =>
 if x2 = true then
  bnd (i_differentVariables ([o.defines, o.uses] : List (List Int))) fun x3 =>
  if x3 = true then
   chk (I64 ((o.defines.length : Int) + (o.uses.length : Int))) <|
   bnd (i_IsImage o.image ((o.defines.length : Int) + (o.uses.length : Int))) fun x4 =>
   some x4
  else
   some false
 else
  some false
def s_HasScope_L1b (list : List Int) (x_1 : Int) (go4 : Int → Option Bool) (x3 : Int) : Option Bool :=
 if x3 < (list.length : Int) then
  bnd (nth list x3) fun x5 =>
  if x5 = x_1 then
   some true
  else
   chk (I64 (x3 + 1)) <|
   go4 (x3 + 1)
 else
  some false
def s_HasScope_L1 (list : List Int) (x_1 : Int) (go : Int → Option Bool) (v : Int) : Option Bool :=
 match v with
 | x3 => s_HasScope_L1b list x_1 go x3
def s_HasScope (list : List Int) (x_1 : Int) : Option Bool :=
 itr (s_HasScope_L1 list x_1) LF 0
end Go.Abs

namespace Go.Abs
set_option linter.unusedVariables false
def s_l1In (x_1 : Int) (a : Int) (b : Int) : Option Bool :=
 if x_1 ≥ a then
  some (decide (x_1 ≤ b))
 else
  some false
def s_l10Plain (op : Int) : Option Bool :=
 if op = 14 then
  some true
 else
  some (decide (op = 17))
def s_l1Few_J2 (s_l1Few : PDat → Int → Option (Bool × Int)) (d : PDat) (i4 : Int) (left5 : Int) (go6 : (Int × Int) → Option (Bool × Int)) (x7 : Bool) : Option (Bool × Int) :=
 if x7 = true then
  bnd (nth d.items i4) fun x8 =>
  bnd (s_l1Few x8 left5) fun x9 =>
  chk (I64 (i4 + 1)) <|
  go6 ((i4 + 1), x9.2)
 else
  some ((decide (left5 ≥ 0)), left5)
def s_l1Few_L1b (s_l1Few : PDat → Int → Option (Bool × Int)) (d : PDat) (go6 : (Int × Int) → Option (Bool × Int)) (i4 : Int) (left5 : Int) : Option (Bool × Int) :=
 if i4 < (d.items.length : Int) then
  s_l1Few_J2 s_l1Few d i4 left5 go6 (decide (left5 ≥ 0))
 else
  s_l1Few_J2 s_l1Few d i4 left5 go6 false
def s_l1Few_L1 (s_l1Few : PDat → Int → Option (Bool × Int)) (d : PDat) (go : (Int × Int) → Option (Bool × Int)) (v : Int × Int) : Option (Bool × Int) :=
 match v with
 | (i4, left5) => s_l1Few_L1b s_l1Few d go i4 left5
def s_l1Few_b (s_l1Few : PDat → Int → Option (Bool × Int)) (d : PDat) (left : Int) : Option (Bool × Int) :=
 chk (I64 (left - 1)) <|
 itr (s_l1Few_L1 s_l1Few d) LF (0, (left - 1))
def s_l1Few : Nat → PDat → Int → Option (Bool × Int)
 | 0, _, _ => none
 | n + 1, d, left => s_l1Few_b (s_l1Few n) d left
def s_DepthOf_L1b (s_DepthOf : PDat → Option Int) (d : PDat) (go5 : (Int × Int) → Option Int) (x3 : Int) (x4 : Int) : Option Int :=
 if x4 < (d.items.length : Int) then
  bnd (nth d.items x4) fun x6 =>
  bnd (s_DepthOf x6) fun x7 =>
  chk (I64 (x4 + 1)) <|
  go5 ((max x3 x7), (x4 + 1))
 else
  chk (I64 (x3 + 1)) <|
  some (x3 + 1)
def s_DepthOf_L1 (s_DepthOf : PDat → Option Int) (d : PDat) (go : (Int × Int) → Option Int) (v : Int × Int) : Option Int :=
 match v with
 | (x3, x4) => s_DepthOf_L1b s_DepthOf d go x3 x4
def s_DepthOf_b (s_DepthOf : PDat → Option Int) (d : PDat) : Option Int :=
 itr (s_DepthOf_L1 s_DepthOf d) LF (0, 0)
def s_DepthOf : Nat → PDat → Option Int
 | 0, _ => none
 | n + 1, d => s_DepthOf_b (s_DepthOf n) d
def s_l1Digit (b : Int) : Option Bool :=
 if b ≥ 48 then
  some (decide (b ≤ 57))
 else
  some false
def s_l1Mark_L2b (b : Int) (go4 : Int → Option Bool) (i3 : Int) : Option Bool :=
 if i3 < (([33, 63, 42, 60, 62, 61, 47, 43, 45, 46, 95] : List UInt8).length : Int) then
  bnd (nth ([33, 63, 42, 60, 62, 61, 47, 43, 45, 46, 95] : List UInt8) i3) fun x5 =>
  if (x5.toNat : Int) = b then
   some true
  else
   chk (I64 (i3 + 1)) <|
   go4 (i3 + 1)
 else
  some false
def s_l1Mark_L2 (b : Int) (go : Int → Option Bool) (v : Int) : Option Bool :=
 match v with
 | i3 => s_l1Mark_L2b b go i3
def s_l1Mark_J1 (b : Int) (x2 : Bool) : Option Bool :=
 if x2 = true then
  some true
 else
  itr (s_l1Mark_L2 b) LF 0
def s_l1Mark (b : Int) : Option Bool :=
 if b ≥ 97 then
  if b ≤ 122 then
   s_l1Mark_J1 b true
  else
   bnd (s_l1Digit b) fun x2 =>
   s_l1Mark_J1 b x2
 else
  bnd (s_l1Digit b) fun x2 =>
  s_l1Mark_J1 b x2
def s_IsSymbol_L2b (s : List UInt8) (go4 : Int → Option Bool) (i3 : Int) : Option Bool :=
 if i3 < (s.length : Int) then
  bnd (nth s i3) fun x5 =>
  bnd (s_l1Mark (x5.toNat : Int)) fun x6 =>
  if x6 = true then
   chk (I64 (i3 + 1)) <|
   go4 (i3 + 1)
  else
   some false
 else
  some true
def s_IsSymbol_L2 (s : List UInt8) (go : Int → Option Bool) (v : Int) : Option Bool :=
 match v with
 | i3 => s_IsSymbol_L2b s go i3
def s_IsSymbol_J1 (s : List UInt8) (x2 : Bool) : Option Bool :=
 if x2 = true then
  some false
 else
  itr (s_IsSymbol_L2 s) LF 0
def s_IsSymbol (s : List UInt8) : Option Bool :=
 bnd (s_l1In (s.length : Int) 1 16) fun x2 =>
 if x2 = true then
  bnd (nth s 0) fun x3 =>
  bnd (s_l1Digit (x3.toNat : Int)) fun x4 =>
  if x4 = true then
   s_IsSymbol_J1 s true
  else
   bnd (nth s 0) fun x5 =>
   if (x5.toNat : Int) = 45 then
    if (s.length : Int) > 1 then
     bnd (nth s 1) fun x6 =>
     bnd (s_l1Digit (x6.toNat : Int)) fun x7 =>
     s_IsSymbol_J1 s x7
    else
     s_IsSymbol_J1 s false
   else
    s_IsSymbol_J1 s false
 else
  s_IsSymbol_J1 s true
def s_l1String_L1b (s : List UInt8) (go3 : Int → Option Bool) (i2 : Int) : Option Bool :=
 if i2 < (s.length : Int) then
  bnd (nth s i2) fun x4 =>
  if (x4.toNat : Int) < 32 then
   some false
  else
   bnd (nth s i2) fun x5 =>
   if (x5.toNat : Int) > 126 then
    some false
   else
    bnd (nth s i2) fun x6 =>
    if (x6.toNat : Int) = 34 then
     some false
    else
     chk (I64 (i2 + 1)) <|
     go3 (i2 + 1)
 else
  some (decide ((s.length : Int) ≤ 20))
def s_l1String_L1 (s : List UInt8) (go : Int → Option Bool) (v : Int) : Option Bool :=
 match v with
 | i2 => s_l1String_L1b s go i2
def s_l1String (s : List UInt8) : Option Bool :=
 itr (s_l1String_L1 s) LF 0
def s_l1Node (kind : Int) (number : Int) (text : List UInt8) (items : Int) : Option Bool :=
 if kind = 0 then
  if number = 0 then
   some (decide (text = ([] : List UInt8)))
  else
   some false
 else
  if kind = 1 then
   if number = 0 then
    bnd (s_IsSymbol text) fun x5 =>
    if x5 = true then
     some (decide (items = 0))
    else
     some false
   else
    some false
  else
   if kind = 2 then
    bnd (s_l1In number (-999999999) 999999999) fun x5 =>
    if x5 = true then
     if text = ([] : List UInt8) then
      some (decide (items = 0))
     else
      some false
    else
     some false
   else
    if kind = 3 then
     bnd (s_l1In number 0 1) fun x5 =>
     if x5 = true then
      if text = ([] : List UInt8) then
       some (decide (items = 0))
      else
       some false
     else
      some false
    else
     if kind = 4 then
      if number = 0 then
       bnd (s_l1String text) fun x5 =>
       if x5 = true then
        some (decide (items = 0))
       else
        some false
      else
       some false
     else
      some false
def s_l1Nodes_L1b (s_l1Nodes : PDat → Option Bool) (d : PDat) (go4 : Int → Option Bool) (x3 : Int) : Option Bool :=
 if x3 < (d.items.length : Int) then
  bnd (nth d.items x3) fun x5 =>
  bnd (s_l1Nodes x5) fun x6 =>
  if x6 = true then
   chk (I64 (x3 + 1)) <|
   go4 (x3 + 1)
  else
   some false
 else
  bnd (s_l1Node d.kind d.number d.text (d.items.length : Int)) fun x5 =>
  some x5
def s_l1Nodes_L1 (s_l1Nodes : PDat → Option Bool) (d : PDat) (go : Int → Option Bool) (v : Int) : Option Bool :=
 match v with
 | x3 => s_l1Nodes_L1b s_l1Nodes d go x3
def s_l1Nodes_b (s_l1Nodes : PDat → Option Bool) (d : PDat) : Option Bool :=
 itr (s_l1Nodes_L1 s_l1Nodes d) LF 0
def s_l1Nodes : Nat → PDat → Option Bool
 | 0, _ => none
 | n + 1, d => s_l1Nodes_b (s_l1Nodes n) d
def s_IsDatum (d : PDat) : Option Bool :=
 bnd (s_l1Few RF d 600) fun x2 =>
 if x2.1 = true then
  bnd (s_DepthOf RF d) fun x3 =>
  if x3 ≤ 20 then
   bnd (s_l1Nodes RF d) fun x4 =>
   some x4
  else
   some false
 else
  some false
def s_EqualData_L1b (s_EqualData : PDat → PDat → Option Bool) (a : PDat) (b : PDat) (go5 : Int → Option Bool) (x4 : Int) : Option Bool :=
 if x4 < (a.items.length : Int) then
  bnd (nth a.items x4) fun x6 =>
  bnd (nth b.items x4) fun x7 =>
  bnd (s_EqualData x6 x7) fun x8 =>
  if x8 = true then
   chk (I64 (x4 + 1)) <|
   go5 (x4 + 1)
  else
   some false
 else
  some true
def s_EqualData_L1 (s_EqualData : PDat → PDat → Option Bool) (a : PDat) (b : PDat) (go : Int → Option Bool) (v : Int) : Option Bool :=
 match v with
 | x4 => s_EqualData_L1b s_EqualData a b go x4
def s_EqualData_b (s_EqualData : PDat → PDat → Option Bool) (a : PDat) (b : PDat) : Option Bool :=
 if a.kind = b.kind then
  if a.number = b.number then
   if a.text = b.text then
    if (a.items.length : Int) = (b.items.length : Int) then
     itr (s_EqualData_L1 s_EqualData a b) LF 0
    else
     some false
   else
    some false
  else
   some false
 else
  some false
def s_EqualData : Nat → PDat → PDat → Option Bool
 | 0, _, _ => none
 | n + 1, a, b => s_EqualData_b (s_EqualData n) a b
def s_l10Instr (x_1 : PInstr) : Option Bool :=
 bnd (s_l1In x_1.op 1 20) fun x2 =>
 if x2 = true then
  if x_1.op = 1 then
   if x_1.a = 0 then
    bnd (s_IsDatum x_1.d) fun x3 =>
    some x3
   else
    some false
  else
   bnd (s_EqualData RF x_1.d (PDat.mk 0 0 ([] : List UInt8) [])) fun x3 =>
   if x3 = true then
    bnd (s_l1In x_1.a 0 4000) fun x4 =>
    if x4 = true then
     if x_1.a = 0 then
      some true
     else
      bnd (s_l10Plain x_1.op) fun x5 =>
      some (!x5)
    else
     some false
   else
    some false
 else
  some false
def s_PrimitiveNames : Option (List (List UInt8)) :=
 some ([([43] : List UInt8), ([45] : List UInt8), ([42] : List UInt8), ([61] : List UInt8), ([60] : List UInt8), ([99, 111, 110, 115] : List UInt8), ([99, 97, 114] : List UInt8), ([99, 100, 114] : List UInt8), ([110, 117, 108, 108, 63] : List UInt8), ([112, 97, 105, 114, 63] : List UInt8), ([110, 117, 109, 98, 101, 114, 63] : List UInt8), ([101, 113, 63] : List UInt8), ([110, 111, 116] : List UInt8), ([100, 105, 115, 112, 108, 97, 121] : List UInt8)] : List (List UInt8))
def s_l10Fits_J1 (m : PImage) (x_1 : Int) (x_2 : PInstr) (x5 : Bool) : Option Bool :=
 if x5 = true then
  if x_2.a < x_1 then
   bnd (nth m.codes x_2.a) fun x6 =>
   some (decide (x6.params = 0))
  else
   some false
 else
  if x_2.op = 19 then
   if x_2.a < x_1 then
    bnd (nth m.codes x_2.a) fun x6 =>
    some (decide (x6.params = 1))
   else
    some false
  else
   if x_2.op = 12 then
    some (decide (x_2.a ≤ 8))
   else
    if x_2.op = 13 then
     some (decide (x_2.a ≤ 8))
    else
     some true
def s_l10Fits (m : PImage) (x_1 : Int) (x_2 : PInstr) : Option Bool :=
 bnd (nth m.codes x_1) fun x4 =>
 if x_2.op = 2 then
  bnd (s_PrimitiveNames) fun x5 =>
  some (decide (x_2.a < (x5.length : Int)))
 else
  if x_2.op = 3 then
   some (decide (x_2.a < x4.slots))
  else
   if x_2.op = 5 then
    some (decide (x_2.a < x4.slots))
   else
    if x_2.op = 7 then
     some (decide (x_2.a < x4.slots))
    else
     if x_2.op = 9 then
      chk (I64 (x4.slots - 1)) <|
      bnd (s_l1In x_2.a x4.params (x4.slots - 1)) fun x5 =>
      some x5
     else
      if x_2.op = 10 then
       some (decide (x_2.a < x4.params))
      else
       if x_2.op = 4 then
        some (decide (x_2.a < x4.captures))
       else
        if x_2.op = 6 then
         some (decide (x_2.a < x4.captures))
        else
         if x_2.op = 8 then
          some (decide (x_2.a < x4.captures))
         else
          if x_2.op = 11 then
           if x_2.a < x_1 then
            bnd (nth m.codes x_2.a) fun x5 =>
            some (decide (x5.params ≤ 8))
           else
            some false
          else
           if x_2.op = 18 then
            s_l10Fits_J1 m x_1 x_2 true
           else
            s_l10Fits_J1 m x_1 x_2 (decide (x_2.op = 20))
def s_l10Code_L1b (m : PImage) (x_1 : Int) (x3 : PCode) (go9 : Int → Option Bool) (x8 : Int) : Option Bool :=
 if x8 < (x3.instrs.length : Int) then
  bnd (nth x3.instrs x8) fun x10 =>
  bnd (s_l10Instr x10) fun x11 =>
  if x11 = true then
   bnd (s_l10Fits m x_1 x10) fun x12 =>
   if x12 = true then
    chk (I64 (x8 + 1)) <|
    go9 (x8 + 1)
   else
    some false
  else
   some false
 else
  some true
def s_l10Code_L1 (m : PImage) (x_1 : Int) (x3 : PCode) (go : Int → Option Bool) (v : Int) : Option Bool :=
 match v with
 | x8 => s_l10Code_L1b m x_1 x3 go x8
def s_l10Code (m : PImage) (x_1 : Int) : Option Bool :=
 bnd (nth m.codes x_1) fun x3 =>
 bnd (s_l1In x3.params 0 8) fun x4 =>
 if x4 = true then
  bnd (s_l1In x3.slots x3.params 500) fun x5 =>
  if x5 = true then
   bnd (s_l1In x3.captures 0 500) fun x6 =>
   if x6 = true then
    bnd (s_l1In (x3.instrs.length : Int) 1 4000) fun x7 =>
    if x7 = true then
     itr (s_l10Code_L1 m x_1 x3) LF 0
    else
     some false
   else
    some false
  else
   some false
 else
  some false
def s_l10Effect (m : PImage) (x_1 : PInstr) : Option (Int × Int) :=
 if x_1.op = 1 then
  some (0, 1)
 else
  if x_1.op = 2 then
   some (0, 1)
  else
   if x_1.op = 3 then
    some (0, 1)
   else
    if x_1.op = 4 then
     some (0, 1)
    else
     if x_1.op = 5 then
      some (0, 1)
     else
      if x_1.op = 6 then
       some (0, 1)
      else
       if x_1.op = 7 then
        some (1, 1)
       else
        if x_1.op = 8 then
         some (1, 1)
        else
         if x_1.op = 11 then
          bnd (nth m.codes x_1.a) fun x3 =>
          some (x3.captures, 1)
         else
          if x_1.op = 18 then
           bnd (nth m.codes x_1.a) fun x3 =>
           some (x3.captures, 1)
          else
           if x_1.op = 19 then
            bnd (nth m.codes x_1.a) fun x3 =>
            some (x3.captures, 1)
           else
            if x_1.op = 20 then
             bnd (nth m.codes x_1.a) fun x3 =>
             some (x3.captures, 1)
            else
             if x_1.op = 12 then
              chk (I64 (x_1.a + 1)) <|
              some ((x_1.a + 1), 1)
             else
              if x_1.op = 13 then
               chk (I64 (x_1.a + 1)) <|
               some ((x_1.a + 1), 0)
              else
               if x_1.op = 14 then
                some (1, 0)
               else
                if x_1.op = 17 then
                 some (1, 0)
                else
                 if x_1.op = 16 then
                  some (1, 0)
                 else
                  some (0, 0)
def s_l10Depths_J3 (x8 : Int) (go10 : (Int × List Int) → Option (List Int × Bool)) (depths11 : List Int) : Option (List Int × Bool) :=
 chk (I64 (x8 + 1)) <|
 go10 ((x8 + 1), depths11)
def s_l10Depths_J7 (x13 : Int × Int) (x14 : Int) (x17 : Int) (depths18 : List Int) (go19 : (Int × List Int) → Option (List Int × Bool)) (x20 : Int) (x21 : Bool) : Option (List Int × Bool) :=
 if x21 = true then
  some ([], false)
 else
  chk (I64 ((x14 - x13.1) + x13.2)) <|
  bnd (nth depths18 x20) fun x22 =>
  chk (I64 (x17 + 1)) <|
  go19 ((x17 + 1), (depths18.set x20.toNat ((x14 - x13.1) + x13.2)))
def s_l10Depths_L6b (x3 : PCode) (x8 : Int) (go10 : (Int × List Int) → Option (List Int × Bool)) (x13 : Int × Int) (x14 : Int) (x16 : List Int) (go19 : (Int × List Int) → Option (List Int × Bool)) (x17 : Int) (depths18 : List Int) : Option (List Int × Bool) :=
 if x17 < (x16.length : Int) then
  bnd (nth x16 x17) fun x20 =>
  if x20 ≤ x8 then
   s_l10Depths_J7 x13 x14 x17 depths18 go19 x20 true
  else
   if x20 ≥ (x3.instrs.length : Int) then
    s_l10Depths_J7 x13 x14 x17 depths18 go19 x20 true
   else
    bnd (nth depths18 x20) fun x21 =>
    if x21 ≥ 0 then
     bnd (nth depths18 x20) fun x22 =>
     chk (I64 ((x14 - x13.1) + x13.2)) <|
     s_l10Depths_J7 x13 x14 x17 depths18 go19 x20 (!decide (x22 = ((x14 - x13.1) + x13.2)))
    else
     s_l10Depths_J7 x13 x14 x17 depths18 go19 x20 false
 else
  s_l10Depths_J3 x8 go10 depths18
def s_l10Depths_L6 (x3 : PCode) (x8 : Int) (go10 : (Int × List Int) → Option (List Int × Bool)) (x13 : Int × Int) (x14 : Int) (x16 : List Int) (go : (Int × List Int) → Option (List Int × Bool)) (v : Int × List Int) : Option (List Int × Bool) :=
 match v with
 | (x17, depths18) => s_l10Depths_L6b x3 x8 go10 x13 x14 x16 go x17 depths18
def s_l10Depths_J5 (x3 : PCode) (x8 : Int) (depths9 : List Int) (go10 : (Int × List Int) → Option (List Int × Bool)) (x13 : Int × Int) (x14 : Int) (x16 : List Int) : Option (List Int × Bool) :=
 itr (s_l10Depths_L6 x3 x8 go10 x13 x14 x16) LF (0, depths9)
def s_l10Depths_J8 (x3 : PCode) (x8 : Int) (depths9 : List Int) (go10 : (Int × List Int) → Option (List Int × Bool)) (x11 : PInstr) (x13 : Int × Int) (x14 : Int) (x16 : Bool) : Option (List Int × Bool) :=
 if x16 = true then
  s_l10Depths_J5 x3 x8 depths9 go10 x13 x14 []
 else
  if x11.op = 15 then
   s_l10Depths_J5 x3 x8 depths9 go10 x13 x14 ([x11.a] : List Int)
  else
   if x11.op = 16 then
    chk ((([(x8 + 1)] : List Int).length + ([x11.a] : List Int).length) * 8 ≤ 140737488355328) <|
    s_l10Depths_J5 x3 x8 depths9 go10 x13 x14 (([(x8 + 1)] : List Int) ++ ([x11.a] : List Int))
   else
    s_l10Depths_J5 x3 x8 depths9 go10 x13 x14 ([(x8 + 1)] : List Int)
def s_l10Depths_J4 (x3 : PCode) (x8 : Int) (depths9 : List Int) (go10 : (Int × List Int) → Option (List Int × Bool)) (x11 : PInstr) (x13 : Int × Int) (x14 : Int) (x15 : Bool) : Option (List Int × Bool) :=
 if x15 = true then
  some ([], false)
 else
  chk (I64 (x8 + 1)) <|
  if x11.op = 14 then
   s_l10Depths_J8 x3 x8 depths9 go10 x11 x13 x14 true
  else
   s_l10Depths_J8 x3 x8 depths9 go10 x11 x13 x14 (decide (x11.op = 13))
def s_l10Depths_L2b (m : PImage) (x3 : PCode) (go10 : (Int × List Int) → Option (List Int × Bool)) (x8 : Int) (depths9 : List Int) : Option (List Int × Bool) :=
 if x8 < (x3.instrs.length : Int) then
  bnd (nth x3.instrs x8) fun x11 =>
  bnd (nth depths9 x8) fun x12 =>
  if x12 < 0 then
   s_l10Depths_J3 x8 go10 depths9
  else
   bnd (s_l10Effect m x11) fun x13 =>
   bnd (nth depths9 x8) fun x14 =>
   chk (I64 (x14 - x13.1)) <|
   if (x14 - x13.1) < 0 then
    s_l10Depths_J4 x3 x8 depths9 go10 x11 x13 x14 true
   else
    chk (I64 ((x14 - x13.1) + x13.2)) <|
    if ((x14 - x13.1) + x13.2) > 500 then
     s_l10Depths_J4 x3 x8 depths9 go10 x11 x13 x14 true
    else
     if x11.op = 14 then
      if (x14 - x13.1) = 0 then
       if x11.op = 13 then
        s_l10Depths_J4 x3 x8 depths9 go10 x11 x13 x14 (!decide ((x14 - x13.1) = 0))
       else
        s_l10Depths_J4 x3 x8 depths9 go10 x11 x13 x14 false
      else
       s_l10Depths_J4 x3 x8 depths9 go10 x11 x13 x14 true
     else
      if x11.op = 13 then
       s_l10Depths_J4 x3 x8 depths9 go10 x11 x13 x14 (!decide ((x14 - x13.1) = 0))
      else
       s_l10Depths_J4 x3 x8 depths9 go10 x11 x13 x14 false
 else
  some (depths9, true)
def s_l10Depths_L2 (m : PImage) (x3 : PCode) (go : (Int × List Int) → Option (List Int × Bool)) (v : Int × List Int) : Option (List Int × Bool) :=
 match v with
 | (x8, depths9) => s_l10Depths_L2b m x3 go x8 depths9
def s_l10Depths_L1b (m : PImage) (x3 : PCode) (go6 : (Int × List Int) → Option (List Int × Bool)) (x4 : Int) (depths5 : List Int) : Option (List Int × Bool) :=
 if x4 < ((List.replicate (x3.instrs.length : Int).toNat (0 : Int)).length : Int) then
  bnd (nth depths5 x4) fun x7 =>
  chk (I64 (x4 + 1)) <|
  go6 ((x4 + 1), (depths5.set x4.toNat (-1)))
 else
  if (x3.instrs.length : Int) = 0 then
   some ([], false)
  else
   bnd (nth depths5 0) fun x7 =>
   itr (s_l10Depths_L2 m x3) LF (0, (depths5.set (0 : Int).toNat 0))
def s_l10Depths_L1 (m : PImage) (x3 : PCode) (go : (Int × List Int) → Option (List Int × Bool)) (v : Int × List Int) : Option (List Int × Bool) :=
 match v with
 | (x4, depths5) => s_l10Depths_L1b m x3 go x4 depths5
def s_l10Depths (m : PImage) (x_1 : Int) : Option (List Int × Bool) :=
 bnd (nth m.codes x_1) fun x3 =>
 chk (0 ≤ (x3.instrs.length : Int) ∧ (8 : Nat) * (x3.instrs.length : Int) ≤ 281474976710656 ∧ (x3.instrs.length : Int) ≤ 281474976710656) <|
 itr (s_l10Depths_L1 m x3) LF (0, (List.replicate (x3.instrs.length : Int).toNat (0 : Int)))
def s_l10Inside (op : Int) : Option Bool :=
 if op = 11 then
  some true
 else
  if op = 18 then
   some true
  else
   if op = 19 then
    some true
   else
    some (decide (op = 20))
def s_l10Tree_J3 (x6 : Int) (go8 : (Int × List Int) → Option Bool) (times9 : List Int) : Option Bool :=
 chk (I64 (x6 + 1)) <|
 go8 ((x6 + 1), times9)
def s_l10Tree_L2b (x2 : Int) (go4 : (Int × List Int) → Option Bool) (x5 : PCode) (go8 : (Int × List Int) → Option Bool) (x6 : Int) (times7 : List Int) : Option Bool :=
 if x6 < (x5.instrs.length : Int) then
  bnd (nth x5.instrs x6) fun x9 =>
  bnd (s_l10Inside x9.op) fun x10 =>
  if x10 = true then
   bnd (nth times7 x9.a) fun x11 =>
   chk (I64 (x11 + 1)) <|
   bnd (nth times7 x9.a) fun x12 =>
   s_l10Tree_J3 x6 go8 (times7.set x9.a.toNat (x11 + 1))
  else
   s_l10Tree_J3 x6 go8 times7
 else
  chk (I64 (x2 + 1)) <|
  go4 ((x2 + 1), times7)
def s_l10Tree_L2 (x2 : Int) (go4 : (Int × List Int) → Option Bool) (x5 : PCode) (go : (Int × List Int) → Option Bool) (v : Int × List Int) : Option Bool :=
 match v with
 | (x6, times7) => s_l10Tree_L2b x2 go4 x5 go x6 times7
def s_l10Tree_J5 (x5 : Int) (go6 : Int → Option Bool) (x8 : Bool) : Option Bool :=
 if x8 = true then
  some false
 else
  chk (I64 (x5 + 1)) <|
  go6 (x5 + 1)
def s_l10Tree_L4b (m : PImage) (times3 : List Int) (go6 : Int → Option Bool) (x5 : Int) : Option Bool :=
 if x5 < (times3.length : Int) then
  bnd (nth times3 x5) fun x7 =>
  if x7 = 1 then
   s_l10Tree_J5 x5 go6 false
  else
   s_l10Tree_J5 x5 go6 (!decide (x5 = m.main))
 else
  some true
def s_l10Tree_L4 (m : PImage) (times3 : List Int) (go : Int → Option Bool) (v : Int) : Option Bool :=
 match v with
 | x5 => s_l10Tree_L4b m times3 go x5
def s_l10Tree_L1b (m : PImage) (go4 : (Int × List Int) → Option Bool) (x2 : Int) (times3 : List Int) : Option Bool :=
 if x2 < (m.codes.length : Int) then
  bnd (nth m.codes x2) fun x5 =>
  itr (s_l10Tree_L2 x2 go4 x5) LF (0, times3)
 else
  itr (s_l10Tree_L4 m times3) LF 0
def s_l10Tree_L1 (m : PImage) (go : (Int × List Int) → Option Bool) (v : Int × List Int) : Option Bool :=
 match v with
 | (x2, times3) => s_l10Tree_L1b m go x2 times3
def s_l10Tree (m : PImage) : Option Bool :=
 chk (0 ≤ (m.codes.length : Int) ∧ (8 : Nat) * (m.codes.length : Int) ≤ 281474976710656 ∧ (m.codes.length : Int) ≤ 281474976710656) <|
 itr (s_l10Tree_L1 m) LF (0, (List.replicate (m.codes.length : Int).toNat (0 : Int)))
def s_IsImage_L1b (m : PImage) (go8 : (Int × Int) → Option Bool) (x6 : Int) (x7 : Int) : Option Bool :=
 if x7 < (m.codes.length : Int) then
  bnd (s_l10Code m x7) fun x9 =>
  if x9 = true then
   bnd (s_l10Depths m x7) fun x10 =>
   if x10.2 = true then
    bnd (nth m.codes x7) fun x11 =>
    chk (I64 (x6 + (x11.instrs.length : Int))) <|
    chk (I64 (x7 + 1)) <|
    go8 ((x6 + (x11.instrs.length : Int)), (x7 + 1))
   else
    some false
  else
   some false
 else
  if x6 ≤ 16000 then
   bnd (s_l10Tree m) fun x9 =>
   some x9
  else
   some false
def s_IsImage_L1 (m : PImage) (go : (Int × Int) → Option Bool) (v : Int × Int) : Option Bool :=
 match v with
 | (x6, x7) => s_IsImage_L1b m go x6 x7
def s_IsImage (m : PImage) (captures : Int) : Option Bool :=
 bnd (s_l1In (m.codes.length : Int) 1 1500) fun x3 =>
 if x3 = true then
  chk (I64 ((m.codes.length : Int) - 1)) <|
  if m.main = ((m.codes.length : Int) - 1) then
   bnd (nth m.codes m.main) fun x4 =>
   if x4.params = 0 then
    bnd (nth m.codes m.main) fun x5 =>
    if x5.captures = captures then
     itr (s_IsImage_L1 m) LF (0, 0)
    else
     some false
   else
    some false
  else
   some false
 else
  some false
end Go.Abs

namespace Go.Abs
set_option linter.unusedVariables false
def s_l2Ints (list : List Int) : Option (List Int) :=
 chk ((([] : List Int).length + list.length) * 8 ≤ 140737488355328) <|
 some (([] : List Int) ++ list)
def s_l7Name (s : List UInt8) : Option Bool :=
 if (s.length : Int) ≤ 8 then
  bnd (s_IsSymbol s) fun x2 =>
  some x2
 else
  some false
def s_l5Unique_L1b (list : List Int) (go3 : Int → Option Bool) (x2 : Int) : Option Bool :=
 if x2 < (list.length : Int) then
  bnd (nth list x2) fun x4 =>
  bnd (s_l1In x4 0 99999) fun x5 =>
  if x5 = true then
   chk (0 ≤ x2 ∧ x2 ≤ list.length) <|
   bnd (s_HasScope (list.take x2.toNat) x4) fun x6 =>
   if x6 = true then
    some false
   else
    chk (I64 (x2 + 1)) <|
    go3 (x2 + 1)
  else
   some false
 else
  some true
def s_l5Unique_L1 (list : List Int) (go : Int → Option Bool) (v : Int) : Option Bool :=
 match v with
 | x2 => s_l5Unique_L1b list go x2
def s_l5Unique (list : List Int) : Option Bool :=
 itr (s_l5Unique_L1 list) LF 0
def s_IsObject (o : PObj) : Option Bool :=
 bnd (s_l2Ints o.defines) fun x2 =>
 chk ((x2.length + o.uses.length) * 8 ≤ 140737488355328) <|
 bnd (s_l7Name o.name) fun x3 =>
 if x3 = true then
  bnd (s_l5Unique (x2 ++ o.uses)) fun x4 =>
  if x4 = true then
   bnd (s_IsImage o.image ((x2 ++ o.uses).length : Int)) fun x5 =>
   some x5
  else
   some false
 else
  some false
def w_szIntS (a : List Int) (left : Int) : Option Int :=
 chk (I64 (left - (a.length : Int))) <|
 if (left - (a.length : Int)) < 0 then
  some (-1)
 else
  some (left - (a.length : Int))
def w_szDatum_b (w_szDatum : PDat → Int → Option Int) (w_szDatumS : List PDat → Int → Option Int) (a : PDat) (left : Int) : Option Int :=
 chk (I64 (left - (a.text.length : Int))) <|
 if (left - (a.text.length : Int)) < 0 then
  some (-1)
 else
  bnd (w_szDatumS a.items (left - (a.text.length : Int))) fun x5 =>
  if x5 < 0 then
   some (-1)
  else
   some x5
def w_szDatumS_L1b (w_szDatum : PDat → Int → Option Int) (a : List PDat) (go7 : (Int × Int) → Option Int) (left5 : Int) (i6 : Int) : Option Int :=
 if i6 < (a.length : Int) then
  bnd (nth a i6) fun x8 =>
  bnd (w_szDatum x8 left5) fun x9 =>
  if x9 < 0 then
   some (-1)
  else
   chk (I64 (i6 + 1)) <|
   go7 (x9, (i6 + 1))
 else
  some left5
def w_szDatumS_L1 (w_szDatum : PDat → Int → Option Int) (a : List PDat) (go : (Int × Int) → Option Int) (v : Int × Int) : Option Int :=
 match v with
 | (left5, i6) => w_szDatumS_L1b w_szDatum a go left5 i6
def w_szDatumS_b (w_szDatum : PDat → Int → Option Int) (w_szDatumS : List PDat → Int → Option Int) (a : List PDat) (left : Int) : Option Int :=
 chk (I64 (left - (a.length : Int))) <|
 if (left - (a.length : Int)) < 0 then
  some (-1)
 else
  itr (w_szDatumS_L1 w_szDatum a) LF ((left - (a.length : Int)), 0)
mutual
def w_szDatum : Nat → PDat → Int → Option Int
 | 0, _, _ => none
 | n + 1, a, left => w_szDatum_b (w_szDatum n) (w_szDatumS n) a left
def w_szDatumS : Nat → List PDat → Int → Option Int
 | 0, _, _ => none
 | n + 1, a, left => w_szDatumS_b (w_szDatum n) (w_szDatumS n) a left
end
def w_szInstr (a : PInstr) (left : Int) : Option Int :=
 bnd (w_szDatum RF a.d left) fun x3 =>
 if x3 < 0 then
  some (-1)
 else
  some x3
def w_szInstrS_L1b (a : List PInstr) (go5 : (Int × Int) → Option Int) (left3 : Int) (i4 : Int) : Option Int :=
 if i4 < (a.length : Int) then
  bnd (nth a i4) fun x6 =>
  bnd (w_szInstr x6 left3) fun x7 =>
  if x7 < 0 then
   some (-1)
  else
   chk (I64 (i4 + 1)) <|
   go5 (x7, (i4 + 1))
 else
  some left3
def w_szInstrS_L1 (a : List PInstr) (go : (Int × Int) → Option Int) (v : Int × Int) : Option Int :=
 match v with
 | (left3, i4) => w_szInstrS_L1b a go left3 i4
def w_szInstrS (a : List PInstr) (left : Int) : Option Int :=
 chk (I64 (left - (a.length : Int))) <|
 if (left - (a.length : Int)) < 0 then
  some (-1)
 else
  itr (w_szInstrS_L1 a) LF ((left - (a.length : Int)), 0)
def w_szCode (a : PCode) (left : Int) : Option Int :=
 bnd (w_szInstrS a.instrs left) fun x3 =>
 if x3 < 0 then
  some (-1)
 else
  some x3
def w_szCodeS_L1b (a : List PCode) (go5 : (Int × Int) → Option Int) (left3 : Int) (i4 : Int) : Option Int :=
 if i4 < (a.length : Int) then
  bnd (nth a i4) fun x6 =>
  bnd (w_szCode x6 left3) fun x7 =>
  if x7 < 0 then
   some (-1)
  else
   chk (I64 (i4 + 1)) <|
   go5 (x7, (i4 + 1))
 else
  some left3
def w_szCodeS_L1 (a : List PCode) (go : (Int × Int) → Option Int) (v : Int × Int) : Option Int :=
 match v with
 | (left3, i4) => w_szCodeS_L1b a go left3 i4
def w_szCodeS (a : List PCode) (left : Int) : Option Int :=
 chk (I64 (left - (a.length : Int))) <|
 if (left - (a.length : Int)) < 0 then
  some (-1)
 else
  itr (w_szCodeS_L1 a) LF ((left - (a.length : Int)), 0)
def w_szImage (a : PImage) (left : Int) : Option Int :=
 bnd (w_szCodeS a.codes left) fun x3 =>
 if x3 < 0 then
  some (-1)
 else
  some x3
def w_szObject (a : PObj) (left : Int) : Option Int :=
 chk (I64 (left - (a.name.length : Int))) <|
 if (left - (a.name.length : Int)) < 0 then
  some (-1)
 else
  bnd (w_szIntS a.defines (left - (a.name.length : Int))) fun x3 =>
  if x3 < 0 then
   some (-1)
  else
   bnd (w_szIntS a.uses x3) fun x4 =>
   if x4 < 0 then
    some (-1)
   else
    bnd (w_szImage a.image x4) fun x5 =>
    if x5 < 0 then
     some (-1)
    else
     some x5
def w_eqIntS_L1b (a : List Int) (b : List Int) (go4 : Int → Option Bool) (i3 : Int) : Option Bool :=
 if i3 < (a.length : Int) then
  bnd (nth a i3) fun x5 =>
  bnd (nth b i3) fun x6 =>
  if x5 = x6 then
   chk (I64 (i3 + 1)) <|
   go4 (i3 + 1)
  else
   some false
 else
  some true
def w_eqIntS_L1 (a : List Int) (b : List Int) (go : Int → Option Bool) (v : Int) : Option Bool :=
 match v with
 | i3 => w_eqIntS_L1b a b go i3
def w_eqIntS (a : List Int) (b : List Int) : Option Bool :=
 if (a.length : Int) = (b.length : Int) then
  itr (w_eqIntS_L1 a b) LF 0
 else
  some false
def w_eqDatum_b (w_eqDatum : PDat → PDat → Option Bool) (w_eqDatumS : List PDat → List PDat → Option Bool) (a : PDat) (b : PDat) : Option Bool :=
 if a.kind = b.kind then
  if a.number = b.number then
   if a.text = b.text then
    bnd (w_eqDatumS a.items b.items) fun x5 =>
    if x5 = true then
     some true
    else
     some false
   else
    some false
  else
   some false
 else
  some false
def w_eqDatumS_L1b (w_eqDatum : PDat → PDat → Option Bool) (a : List PDat) (b : List PDat) (go6 : Int → Option Bool) (i5 : Int) : Option Bool :=
 if i5 < (a.length : Int) then
  bnd (nth a i5) fun x7 =>
  bnd (nth b i5) fun x8 =>
  bnd (w_eqDatum x7 x8) fun x9 =>
  if x9 = true then
   chk (I64 (i5 + 1)) <|
   go6 (i5 + 1)
  else
   some false
 else
  some true
def w_eqDatumS_L1 (w_eqDatum : PDat → PDat → Option Bool) (a : List PDat) (b : List PDat) (go : Int → Option Bool) (v : Int) : Option Bool :=
 match v with
 | i5 => w_eqDatumS_L1b w_eqDatum a b go i5
def w_eqDatumS_b (w_eqDatum : PDat → PDat → Option Bool) (w_eqDatumS : List PDat → List PDat → Option Bool) (a : List PDat) (b : List PDat) : Option Bool :=
 if (a.length : Int) = (b.length : Int) then
  itr (w_eqDatumS_L1 w_eqDatum a b) LF 0
 else
  some false
mutual
def w_eqDatum : Nat → PDat → PDat → Option Bool
 | 0, _, _ => none
 | n + 1, a, b => w_eqDatum_b (w_eqDatum n) (w_eqDatumS n) a b
def w_eqDatumS : Nat → List PDat → List PDat → Option Bool
 | 0, _, _ => none
 | n + 1, a, b => w_eqDatumS_b (w_eqDatum n) (w_eqDatumS n) a b
end
def w_eqInstr (a : PInstr) (b : PInstr) : Option Bool :=
 if a.op = b.op then
  if a.a = b.a then
   bnd (w_eqDatum RF a.d b.d) fun x3 =>
   if x3 = true then
    some true
   else
    some false
  else
   some false
 else
  some false
def w_eqInstrS_L1b (a : List PInstr) (b : List PInstr) (go4 : Int → Option Bool) (i3 : Int) : Option Bool :=
 if i3 < (a.length : Int) then
  bnd (nth a i3) fun x5 =>
  bnd (nth b i3) fun x6 =>
  bnd (w_eqInstr x5 x6) fun x7 =>
  if x7 = true then
   chk (I64 (i3 + 1)) <|
   go4 (i3 + 1)
  else
   some false
 else
  some true
def w_eqInstrS_L1 (a : List PInstr) (b : List PInstr) (go : Int → Option Bool) (v : Int) : Option Bool :=
 match v with
 | i3 => w_eqInstrS_L1b a b go i3
def w_eqInstrS (a : List PInstr) (b : List PInstr) : Option Bool :=
 if (a.length : Int) = (b.length : Int) then
  itr (w_eqInstrS_L1 a b) LF 0
 else
  some false
def w_eqCode (a : PCode) (b : PCode) : Option Bool :=
 if a.params = b.params then
  if a.slots = b.slots then
   if a.captures = b.captures then
    bnd (w_eqInstrS a.instrs b.instrs) fun x3 =>
    if x3 = true then
     some true
    else
     some false
   else
    some false
  else
   some false
 else
  some false
def w_eqCodeS_L1b (a : List PCode) (b : List PCode) (go4 : Int → Option Bool) (i3 : Int) : Option Bool :=
 if i3 < (a.length : Int) then
  bnd (nth a i3) fun x5 =>
  bnd (nth b i3) fun x6 =>
  bnd (w_eqCode x5 x6) fun x7 =>
  if x7 = true then
   chk (I64 (i3 + 1)) <|
   go4 (i3 + 1)
  else
   some false
 else
  some true
def w_eqCodeS_L1 (a : List PCode) (b : List PCode) (go : Int → Option Bool) (v : Int) : Option Bool :=
 match v with
 | i3 => w_eqCodeS_L1b a b go i3
def w_eqCodeS (a : List PCode) (b : List PCode) : Option Bool :=
 if (a.length : Int) = (b.length : Int) then
  itr (w_eqCodeS_L1 a b) LF 0
 else
  some false
def w_eqImage (a : PImage) (b : PImage) : Option Bool :=
 bnd (w_eqCodeS a.codes b.codes) fun x3 =>
 if x3 = true then
  if a.main = b.main then
   some true
  else
   some false
 else
  some false
def w_eqObject (a : PObj) (b : PObj) : Option Bool :=
 if a.name = b.name then
  bnd (w_eqIntS a.defines b.defines) fun x3 =>
  if x3 = true then
   bnd (w_eqIntS a.uses b.uses) fun x4 =>
   if x4 = true then
    bnd (w_eqImage a.image b.image) fun x5 =>
    if x5 = true then
     some true
    else
     some false
   else
    some false
  else
   some false
 else
  some false
def w_toIntS_L1b (a : List Int) (go4 : (Int × List Int) → Option (List Int)) (i2 : Int) (out3 : List Int) : Option (List Int) :=
 if i2 < (a.length : Int) then
  bnd (nth a i2) fun x5 =>
  bnd (nth out3 i2) fun x6 =>
  chk (I64 (i2 + 1)) <|
  go4 ((i2 + 1), (out3.set i2.toNat x5))
 else
  some out3
def w_toIntS_L1 (a : List Int) (go : (Int × List Int) → Option (List Int)) (v : Int × List Int) : Option (List Int) :=
 match v with
 | (i2, out3) => w_toIntS_L1b a go i2 out3
def w_toIntS (a : List Int) : Option (List Int) :=
 chk (0 ≤ (a.length : Int) ∧ (8 : Nat) * (a.length : Int) ≤ 281474976710656 ∧ (a.length : Int) ≤ 281474976710656) <|
 itr (w_toIntS_L1 a) LF (0, (List.replicate (a.length : Int).toNat (0 : Int)))
def w_toDatum_b (w_toDatum : PDat → Option PDat) (w_toDatumS : List PDat → Option (List PDat)) (a : PDat) : Option PDat :=
 bnd (w_toDatumS a.items) fun x4 =>
 some (PDat.mk a.kind a.number a.text x4)
def w_toDatumS_L1b (w_toDatum : PDat → Option PDat) (a : List PDat) (go6 : (Int × List PDat) → Option (List PDat)) (i4 : Int) (out5 : List PDat) : Option (List PDat) :=
 if i4 < (a.length : Int) then
  bnd (nth a i4) fun x7 =>
  bnd (w_toDatum x7) fun x8 =>
  bnd (nth out5 i4) fun x9 =>
  chk (I64 (i4 + 1)) <|
  go6 ((i4 + 1), (out5.set i4.toNat x8))
 else
  some out5
def w_toDatumS_L1 (w_toDatum : PDat → Option PDat) (a : List PDat) (go : (Int × List PDat) → Option (List PDat)) (v : Int × List PDat) : Option (List PDat) :=
 match v with
 | (i4, out5) => w_toDatumS_L1b w_toDatum a go i4 out5
def w_toDatumS_b (w_toDatum : PDat → Option PDat) (w_toDatumS : List PDat → Option (List PDat)) (a : List PDat) : Option (List PDat) :=
 chk (0 ≤ (a.length : Int) ∧ (56 : Nat) * (a.length : Int) ≤ 281474976710656 ∧ (a.length : Int) ≤ 281474976710656) <|
 itr (w_toDatumS_L1 w_toDatum a) LF (0, (List.replicate (a.length : Int).toNat ((PDat.mk 0 0 ([] : List UInt8) []) : PDat)))
mutual
def w_toDatum : Nat → PDat → Option PDat
 | 0, _ => none
 | n + 1, a => w_toDatum_b (w_toDatum n) (w_toDatumS n) a
def w_toDatumS : Nat → List PDat → Option (List PDat)
 | 0, _ => none
 | n + 1, a => w_toDatumS_b (w_toDatum n) (w_toDatumS n) a
end
def w_toInstr (a : PInstr) : Option PInstr :=
 bnd (w_toDatum RF a.d) fun x2 =>
 some (PInstr.mk a.op a.a x2)
def w_toInstrS_L1b (a : List PInstr) (go4 : (Int × List PInstr) → Option (List PInstr)) (i2 : Int) (out3 : List PInstr) : Option (List PInstr) :=
 if i2 < (a.length : Int) then
  bnd (nth a i2) fun x5 =>
  bnd (w_toInstr x5) fun x6 =>
  bnd (nth out3 i2) fun x7 =>
  chk (I64 (i2 + 1)) <|
  go4 ((i2 + 1), (out3.set i2.toNat x6))
 else
  some out3
def w_toInstrS_L1 (a : List PInstr) (go : (Int × List PInstr) → Option (List PInstr)) (v : Int × List PInstr) : Option (List PInstr) :=
 match v with
 | (i2, out3) => w_toInstrS_L1b a go i2 out3
def w_toInstrS (a : List PInstr) : Option (List PInstr) :=
 chk (0 ≤ (a.length : Int) ∧ (72 : Nat) * (a.length : Int) ≤ 281474976710656 ∧ (a.length : Int) ≤ 281474976710656) <|
 itr (w_toInstrS_L1 a) LF (0, (List.replicate (a.length : Int).toNat ((PInstr.mk 0 0 (PDat.mk 0 0 ([] : List UInt8) [])) : PInstr)))
def w_toCode (a : PCode) : Option PCode :=
 bnd (w_toInstrS a.instrs) fun x2 =>
 some (PCode.mk a.params a.slots a.captures x2)
def w_toCodeS_L1b (a : List PCode) (go4 : (Int × List PCode) → Option (List PCode)) (i2 : Int) (out3 : List PCode) : Option (List PCode) :=
 if i2 < (a.length : Int) then
  bnd (nth a i2) fun x5 =>
  bnd (w_toCode x5) fun x6 =>
  bnd (nth out3 i2) fun x7 =>
  chk (I64 (i2 + 1)) <|
  go4 ((i2 + 1), (out3.set i2.toNat x6))
 else
  some out3
def w_toCodeS_L1 (a : List PCode) (go : (Int × List PCode) → Option (List PCode)) (v : Int × List PCode) : Option (List PCode) :=
 match v with
 | (i2, out3) => w_toCodeS_L1b a go i2 out3
def w_toCodeS (a : List PCode) : Option (List PCode) :=
 chk (0 ≤ (a.length : Int) ∧ (48 : Nat) * (a.length : Int) ≤ 281474976710656 ∧ (a.length : Int) ≤ 281474976710656) <|
 itr (w_toCodeS_L1 a) LF (0, (List.replicate (a.length : Int).toNat ((PCode.mk 0 0 0 []) : PCode)))
def w_toImage (a : PImage) : Option PImage :=
 bnd (w_toCodeS a.codes) fun x2 =>
 some (PImage.mk x2 a.main)
def w_toObject (a : PObj) : Option PObj :=
 bnd (w_toIntS a.defines) fun x2 =>
 bnd (w_toIntS a.uses) fun x3 =>
 bnd (w_toImage a.image) fun x4 =>
 some (PObj.mk a.name x2 x3 x4)
end Go.Abs

namespace Go.Abs
set_option linter.unusedVariables false
end Go.Abs

namespace Go.Abs
set_option linter.unusedVariables false
def i_FormatNumber (x_1 : Int) : Option (List UInt8) :=
 bnd (x_Itoa x_1) fun x2 =>
 some x2
def i_writeDatum_J2 (i_writeDatum : List UInt8 → PDat → Option (List UInt8)) (x4 : Int) (go6 : (Int × List UInt8) → Option (List UInt8)) (x7 : PDat) (out8 : List UInt8) : Option (List UInt8) :=
 bnd (i_writeDatum out8 x7) fun x9 =>
 chk (I64 (x4 + 1)) <|
 go6 ((x4 + 1), x9)
def i_writeDatum_L1b (i_writeDatum : List UInt8 → PDat → Option (List UInt8)) (d : PDat) (go6 : (Int × List UInt8) → Option (List UInt8)) (x4 : Int) (out5 : List UInt8) : Option (List UInt8) :=
 if x4 < (d.items.length : Int) then
  bnd (nth d.items x4) fun x7 =>
  if x4 > 0 then
   chk ((out5.length + ([32] : List UInt8).length) * 1 ≤ 140737488355328) <|
   i_writeDatum_J2 i_writeDatum x4 go6 x7 (out5 ++ ([32] : List UInt8))
  else
   i_writeDatum_J2 i_writeDatum x4 go6 x7 out5
 else
  chk ((out5.length + ([41] : List UInt8).length) * 1 ≤ 140737488355328) <|
  some (out5 ++ ([41] : List UInt8))
def i_writeDatum_L1 (i_writeDatum : List UInt8 → PDat → Option (List UInt8)) (d : PDat) (go : (Int × List UInt8) → Option (List UInt8)) (v : Int × List UInt8) : Option (List UInt8) :=
 match v with
 | (x4, out5) => i_writeDatum_L1b i_writeDatum d go x4 out5
def i_writeDatum_b (i_writeDatum : List UInt8 → PDat → Option (List UInt8)) (out : List UInt8) (d : PDat) : Option (List UInt8) :=
 if d.kind = 1 then
  chk ((out.length + d.text.length) * 1 ≤ 140737488355328) <|
  some (out ++ d.text)
 else
  if d.kind = 2 then
   bnd (i_FormatNumber d.number) fun x4 =>
   chk ((out.length + x4.length) * 1 ≤ 140737488355328) <|
   some (out ++ x4)
  else
   if d.kind = 3 then
    if d.number = 1 then
     chk ((out.length + ([35, 116] : List UInt8).length) * 1 ≤ 140737488355328) <|
     some (out ++ ([35, 116] : List UInt8))
    else
     chk ((out.length + ([35, 102] : List UInt8).length) * 1 ≤ 140737488355328) <|
     some (out ++ ([35, 102] : List UInt8))
   else
    if d.kind = 4 then
     chk ((out.length + ([34] : List UInt8).length) * 1 ≤ 140737488355328) <|
     chk (((out ++ ([34] : List UInt8)).length + d.text.length) * 1 ≤ 140737488355328) <|
     chk ((((out ++ ([34] : List UInt8)) ++ d.text).length + ([34] : List UInt8).length) * 1 ≤ 140737488355328) <|
     some (((out ++ ([34] : List UInt8)) ++ d.text) ++ ([34] : List UInt8))
    else
     chk ((out.length + ([40] : List UInt8).length) * 1 ≤ 140737488355328) <|
     itr (i_writeDatum_L1 i_writeDatum d) LF (0, (out ++ ([40] : List UInt8)))
def i_writeDatum : Nat → List UInt8 → PDat → Option (List UInt8)
 | 0, _, _ => none
 | n + 1, out, d => i_writeDatum_b (i_writeDatum n) out d
def i_FormatDatum (d : PDat) : Option (List UInt8) :=
 bnd (i_IsDatum d) fun x2 =>
 if x2 = true then
  bnd (i_writeDatum RF [] d) fun x3 =>
  some x3
 else
  some ([] : List UInt8)
def i_OpName (op : Int) : Option (List UInt8) :=
 if op < 1 then
  some ([] : List UInt8)
 else
  if op > 20 then
   some ([] : List UInt8)
  else
   chk (I64 (op - 1)) <|
   bnd (nth t4 (op - 1)) fun x2 =>
   some x2
def i_FormatInstr (x_1 : PInstr) : Option (List UInt8) :=
 bnd (i_instrOk x_1) fun x2 =>
 if x2 = true then
  if x_1.op = 1 then
   bnd (i_OpName x_1.op) fun x3 =>
   chk (x3.length + ([32] : List UInt8).length ≤ 9223372036854775807) <|
   bnd (i_FormatDatum x_1.d) fun x4 =>
   chk ((x3 ++ ([32] : List UInt8)).length + x4.length ≤ 9223372036854775807) <|
   some ((x3 ++ ([32] : List UInt8)) ++ x4)
  else
   if x_1.op = 14 then
    bnd (i_OpName x_1.op) fun x3 =>
    some x3
   else
    if x_1.op = 17 then
     bnd (i_OpName x_1.op) fun x3 =>
     some x3
    else
     bnd (i_OpName x_1.op) fun x3 =>
     chk (x3.length + ([32] : List UInt8).length ≤ 9223372036854775807) <|
     bnd (i_FormatNumber x_1.a) fun x4 =>
     chk ((x3 ++ ([32] : List UInt8)).length + x4.length ≤ 9223372036854775807) <|
     some ((x3 ++ ([32] : List UInt8)) ++ x4)
 else
  some ([] : List UInt8)
def i_wordAndNumbers_L1b (list : List Int) (go5 : (List UInt8 × Int) → Option (List UInt8)) (word3 : List UInt8) (x4 : Int) : Option (List UInt8) :=
 if x4 < (list.length : Int) then
  bnd (nth list x4) fun x6 =>
  bnd (i_FormatNumber x6) fun x7 =>
  chk (([32] : List UInt8).length + x7.length ≤ 9223372036854775807) <|
  chk (word3.length + (([32] : List UInt8) ++ x7).length ≤ 9223372036854775807) <|
  chk (I64 (x4 + 1)) <|
  go5 ((word3 ++ (([32] : List UInt8) ++ x7)), (x4 + 1))
 else
  some word3
def i_wordAndNumbers_L1 (list : List Int) (go : (List UInt8 × Int) → Option (List UInt8)) (v : List UInt8 × Int) : Option (List UInt8) :=
 match v with
 | (word3, x4) => i_wordAndNumbers_L1b list go word3 x4
def i_wordAndNumbers (word : List UInt8) (list : List Int) : Option (List UInt8) :=
 itr (i_wordAndNumbers_L1 list) LF (word, 0)
def i_imageLines_L2b (x2 : Int) (go4 : (Int × List (List UInt8)) → Option (List (List UInt8))) (x5 : PCode) (go11 : (Int × List (List UInt8)) → Option (List (List UInt8))) (x9 : Int) (out10 : List (List UInt8)) : Option (List (List UInt8)) :=
 if x9 < (x5.instrs.length : Int) then
  bnd (nth x5.instrs x9) fun x12 =>
  bnd (i_FormatInstr x12) fun x13 =>
  chk ((out10.length + ([x13] : List (List UInt8)).length) * 16 ≤ 140737488355328) <|
  chk (I64 (x9 + 1)) <|
  go11 ((x9 + 1), (out10 ++ ([x13] : List (List UInt8))))
 else
  chk (I64 (x2 + 1)) <|
  go4 ((x2 + 1), out10)
def i_imageLines_L2 (x2 : Int) (go4 : (Int × List (List UInt8)) → Option (List (List UInt8))) (x5 : PCode) (go : (Int × List (List UInt8)) → Option (List (List UInt8))) (v : Int × List (List UInt8)) : Option (List (List UInt8)) :=
 match v with
 | (x9, out10) => i_imageLines_L2b x2 go4 x5 go x9 out10
def i_imageLines_L1b (m : PImage) (go4 : (Int × List (List UInt8)) → Option (List (List UInt8))) (x2 : Int) (out3 : List (List UInt8)) : Option (List (List UInt8)) :=
 if x2 < (m.codes.length : Int) then
  bnd (nth m.codes x2) fun x5 =>
  bnd (i_FormatNumber x5.params) fun x6 =>
  chk (([99, 111, 100, 101, 32] : List UInt8).length + x6.length ≤ 9223372036854775807) <|
  chk ((([99, 111, 100, 101, 32] : List UInt8) ++ x6).length + ([32] : List UInt8).length ≤ 9223372036854775807) <|
  bnd (i_FormatNumber x5.slots) fun x7 =>
  chk (((([99, 111, 100, 101, 32] : List UInt8) ++ x6) ++ ([32] : List UInt8)).length + x7.length ≤ 9223372036854775807) <|
  chk ((((([99, 111, 100, 101, 32] : List UInt8) ++ x6) ++ ([32] : List UInt8)) ++ x7).length + ([32] : List UInt8).length ≤ 9223372036854775807) <|
  bnd (i_FormatNumber x5.captures) fun x8 =>
  chk (((((([99, 111, 100, 101, 32] : List UInt8) ++ x6) ++ ([32] : List UInt8)) ++ x7) ++ ([32] : List UInt8)).length + x8.length ≤ 9223372036854775807) <|
  chk ((out3.length + ([(((((([99, 111, 100, 101, 32] : List UInt8) ++ x6) ++ ([32] : List UInt8)) ++ x7) ++ ([32] : List UInt8)) ++ x8)] : List (List UInt8)).length) * 16 ≤ 140737488355328) <|
  itr (i_imageLines_L2 x2 go4 x5) LF (0, (out3 ++ ([(((((([99, 111, 100, 101, 32] : List UInt8) ++ x6) ++ ([32] : List UInt8)) ++ x7) ++ ([32] : List UInt8)) ++ x8)] : List (List UInt8))))
 else
  some out3
def i_imageLines_L1 (m : PImage) (go : (Int × List (List UInt8)) → Option (List (List UInt8))) (v : Int × List (List UInt8)) : Option (List (List UInt8)) :=
 match v with
 | (x2, out3) => i_imageLines_L1b m go x2 out3
def i_imageLines (m : PImage) : Option (List (List UInt8)) :=
 itr (i_imageLines_L1 m) LF (0, [])
def i_FormatObject (o : PObj) : Option (List (List UInt8)) :=
 bnd (i_IsObject o) fun x2 =>
 if x2 = true then
  chk (([111, 98, 106, 101, 99, 116, 32] : List UInt8).length + o.name.length ≤ 9223372036854775807) <|
  bnd (i_wordAndNumbers ([100, 101, 102, 105, 110, 101, 115] : List UInt8) o.defines) fun x3 =>
  bnd (i_wordAndNumbers ([117, 115, 101, 115] : List UInt8) o.uses) fun x4 =>
  bnd (i_imageLines o.image) fun x5 =>
  chk ((([(([111, 98, 106, 101, 99, 116, 32] : List UInt8) ++ o.name), x3, x4] : List (List UInt8)).length + x5.length) * 16 ≤ 140737488355328) <|
  some (([(([111, 98, 106, 101, 99, 116, 32] : List UInt8) ++ o.name), x3, x4] : List (List UInt8)) ++ x5)
 else
  some []
end Go.Abs

namespace Go.Abs
set_option linter.unusedVariables false
def s_FormatNumber_J2 (out2 : List UInt8) (x3 : Int) (go4 : (List UInt8 × Int) → Option (List UInt8)) (d5 : Int) : Option (List UInt8) :=
 chk (I64 (48 + d5)) <|
 chk (0 ≤ (48 + d5) ∧ (48 + d5) ≤ 255) <|
 chk (([(UInt8.ofNat (48 + d5).toNat)] : List UInt8).length + out2.length ≤ 9223372036854775807) <|
 chk (I64 x3 ∧ (0 : Int) < 10) <|
 go4 ((([(UInt8.ofNat (48 + d5).toNat)] : List UInt8) ++ out2), (Int.tdiv x3 10))
def s_FormatNumber_L1b (x_1 : Int) (go4 : (List UInt8 × Int) → Option (List UInt8)) (out2 : List UInt8) (x3 : Int) : Option (List UInt8) :=
 if x3 = 0 then
  if x_1 < 0 then
   chk (([45] : List UInt8).length + out2.length ≤ 9223372036854775807) <|
   some (([45] : List UInt8) ++ out2)
  else
   some out2
 else
  chk (I64 x3 ∧ (0 : Int) < 10) <|
  if (Int.tmod x3 10) < 0 then
   chk (I64 (-(Int.tmod x3 10))) <|
   s_FormatNumber_J2 out2 x3 go4 (-(Int.tmod x3 10))
  else
   s_FormatNumber_J2 out2 x3 go4 (Int.tmod x3 10)
def s_FormatNumber_L1 (x_1 : Int) (go : (List UInt8 × Int) → Option (List UInt8)) (v : List UInt8 × Int) : Option (List UInt8) :=
 match v with
 | (out2, x3) => s_FormatNumber_L1b x_1 go out2 x3
def s_FormatNumber (x_1 : Int) : Option (List UInt8) :=
 if x_1 = 0 then
  some ([48] : List UInt8)
 else
  itr (s_FormatNumber_L1 x_1) LF (([] : List UInt8), x_1)
def s_l1Join_J2 (x4 : Int) (go5 : (List UInt8 × Int) → Option (List UInt8)) (x6 : List UInt8) (out7 : List UInt8) : Option (List UInt8) :=
 chk (out7.length + x6.length ≤ 9223372036854775807) <|
 chk (I64 (x4 + 1)) <|
 go5 ((out7 ++ x6), (x4 + 1))
def s_l1Join_L1b (list : List (List UInt8)) (x_1 : List UInt8) (go5 : (List UInt8 × Int) → Option (List UInt8)) (out3 : List UInt8) (x4 : Int) : Option (List UInt8) :=
 if x4 < (list.length : Int) then
  bnd (nth list x4) fun x6 =>
  if x4 > 0 then
   chk (out3.length + x_1.length ≤ 9223372036854775807) <|
   s_l1Join_J2 x4 go5 x6 (out3 ++ x_1)
  else
   s_l1Join_J2 x4 go5 x6 out3
 else
  some out3
def s_l1Join_L1 (list : List (List UInt8)) (x_1 : List UInt8) (go : (List UInt8 × Int) → Option (List UInt8)) (v : List UInt8 × Int) : Option (List UInt8) :=
 match v with
 | (out3, x4) => s_l1Join_L1b list x_1 go out3 x4
def s_l1Join (list : List (List UInt8)) (x_1 : List UInt8) : Option (List UInt8) :=
 itr (s_l1Join_L1 list x_1) LF (([] : List UInt8), 0)
def s_l1Format_L1b (s_l1Format : PDat → Option (List UInt8)) (d : PDat) (go5 : (Int × List (List UInt8)) → Option (List UInt8)) (x3 : Int) (parts4 : List (List UInt8)) : Option (List UInt8) :=
 if x3 < (d.items.length : Int) then
  bnd (nth d.items x3) fun x6 =>
  bnd (s_l1Format x6) fun x7 =>
  chk ((parts4.length + ([x7] : List (List UInt8)).length) * 16 ≤ 140737488355328) <|
  chk (I64 (x3 + 1)) <|
  go5 ((x3 + 1), (parts4 ++ ([x7] : List (List UInt8))))
 else
  bnd (s_l1Join parts4 ([32] : List UInt8)) fun x6 =>
  chk (([40] : List UInt8).length + x6.length ≤ 9223372036854775807) <|
  chk ((([40] : List UInt8) ++ x6).length + ([41] : List UInt8).length ≤ 9223372036854775807) <|
  some ((([40] : List UInt8) ++ x6) ++ ([41] : List UInt8))
def s_l1Format_L1 (s_l1Format : PDat → Option (List UInt8)) (d : PDat) (go : (Int × List (List UInt8)) → Option (List UInt8)) (v : Int × List (List UInt8)) : Option (List UInt8) :=
 match v with
 | (x3, parts4) => s_l1Format_L1b s_l1Format d go x3 parts4
def s_l1Format_b (s_l1Format : PDat → Option (List UInt8)) (d : PDat) : Option (List UInt8) :=
 if d.kind = 1 then
  some d.text
 else
  if d.kind = 2 then
   bnd (s_FormatNumber d.number) fun x3 =>
   some x3
  else
   if d.kind = 3 then
    bnd (nth ([([35, 102] : List UInt8), ([35, 116] : List UInt8)] : List (List UInt8)) d.number) fun x3 =>
    some x3
   else
    if d.kind = 4 then
     chk (([34] : List UInt8).length + d.text.length ≤ 9223372036854775807) <|
     chk ((([34] : List UInt8) ++ d.text).length + ([34] : List UInt8).length ≤ 9223372036854775807) <|
     some ((([34] : List UInt8) ++ d.text) ++ ([34] : List UInt8))
    else
     itr (s_l1Format_L1 s_l1Format d) LF (0, ([] : List (List UInt8)))
def s_l1Format : Nat → PDat → Option (List UInt8)
 | 0, _ => none
 | n + 1, d => s_l1Format_b (s_l1Format n) d
def s_OpName (op : Int) : Option (List UInt8) :=
 bnd (s_l1In op 1 20) fun x2 =>
 if x2 = true then
  chk (I64 (op - 1)) <|
  bnd (nth ([([99, 111, 110, 115, 116, 97, 110, 116] : List UInt8), ([112, 114, 105, 109, 105, 116, 105, 118, 101] : List UInt8), ([108, 111, 99, 97, 108] : List UInt8), ([99, 97, 112, 116, 117, 114, 101, 100] : List UInt8), ([114, 101, 97, 100, 45, 108, 111, 99, 97, 108] : List UInt8), ([114, 101, 97, 100, 45, 98, 111, 120] : List UInt8), ([119, 114, 105, 116, 101, 45, 108, 111, 99, 97, 108] : List UInt8), ([119, 114, 105, 116, 101, 45, 98, 111, 120] : List UInt8), ([110, 101, 119, 45, 98, 111, 120] : List UInt8), ([98, 111, 120, 45, 112, 97, 114, 97, 109] : List UInt8), ([99, 108, 111, 115, 117, 114, 101] : List UInt8), ([99, 97, 108, 108] : List UInt8), ([116, 97, 105, 108, 45, 99, 97, 108, 108] : List UInt8), ([114, 101, 116, 117, 114, 110] : List UInt8), ([106, 117, 109, 112] : List UInt8), ([106, 117, 109, 112, 45, 105, 102, 45, 102, 97, 108, 115, 101] : List UInt8), ([112, 111, 112] : List UInt8), ([114, 101, 115, 101, 116] : List UInt8), ([115, 104, 105, 102, 116] : List UInt8), ([101, 110, 116, 101, 114] : List UInt8)] : List (List UInt8)) (op - 1)) fun x3 =>
  some x3
 else
  some ([] : List UInt8)
def s_FormatInstr (x_1 : PInstr) : Option (List UInt8) :=
 bnd (s_l10Instr x_1) fun x2 =>
 if x2 = true then
  if x_1.op = 1 then
   bnd (s_OpName x_1.op) fun x3 =>
   chk (x3.length + ([32] : List UInt8).length ≤ 9223372036854775807) <|
   bnd (s_l1Format RF x_1.d) fun x4 =>
   chk ((x3 ++ ([32] : List UInt8)).length + x4.length ≤ 9223372036854775807) <|
   some ((x3 ++ ([32] : List UInt8)) ++ x4)
  else
   bnd (s_l10Plain x_1.op) fun x3 =>
   if x3 = true then
    bnd (s_OpName x_1.op) fun x4 =>
    some x4
   else
    bnd (s_OpName x_1.op) fun x4 =>
    chk (x4.length + ([32] : List UInt8).length ≤ 9223372036854775807) <|
    bnd (s_FormatNumber x_1.a) fun x5 =>
    chk ((x4 ++ ([32] : List UInt8)).length + x5.length ≤ 9223372036854775807) <|
    some ((x4 ++ ([32] : List UInt8)) ++ x5)
 else
  some ([] : List UInt8)
def s_l10Head_L2b (o : PObj) (a2 : List UInt8) (go7 : (List UInt8 × Int) → Option (List (List UInt8))) (b5 : List UInt8) (x6 : Int) : Option (List (List UInt8)) :=
 if x6 < (o.uses.length : Int) then
  bnd (nth o.uses x6) fun x8 =>
  chk (b5.length + ([32] : List UInt8).length ≤ 9223372036854775807) <|
  bnd (s_FormatNumber x8) fun x9 =>
  chk ((b5 ++ ([32] : List UInt8)).length + x9.length ≤ 9223372036854775807) <|
  chk (I64 (x6 + 1)) <|
  go7 (((b5 ++ ([32] : List UInt8)) ++ x9), (x6 + 1))
 else
  chk (([111, 98, 106, 101, 99, 116, 32] : List UInt8).length + o.name.length ≤ 9223372036854775807) <|
  some ([(([111, 98, 106, 101, 99, 116, 32] : List UInt8) ++ o.name), a2, b5] : List (List UInt8))
def s_l10Head_L2 (o : PObj) (a2 : List UInt8) (go : (List UInt8 × Int) → Option (List (List UInt8))) (v : List UInt8 × Int) : Option (List (List UInt8)) :=
 match v with
 | (b5, x6) => s_l10Head_L2b o a2 go b5 x6
def s_l10Head_L1b (o : PObj) (go4 : (List UInt8 × Int) → Option (List (List UInt8))) (a2 : List UInt8) (x3 : Int) : Option (List (List UInt8)) :=
 if x3 < (o.defines.length : Int) then
  bnd (nth o.defines x3) fun x5 =>
  chk (a2.length + ([32] : List UInt8).length ≤ 9223372036854775807) <|
  bnd (s_FormatNumber x5) fun x6 =>
  chk ((a2 ++ ([32] : List UInt8)).length + x6.length ≤ 9223372036854775807) <|
  chk (I64 (x3 + 1)) <|
  go4 (((a2 ++ ([32] : List UInt8)) ++ x6), (x3 + 1))
 else
  itr (s_l10Head_L2 o a2) LF (([117, 115, 101, 115] : List UInt8), 0)
def s_l10Head_L1 (o : PObj) (go : (List UInt8 × Int) → Option (List (List UInt8))) (v : List UInt8 × Int) : Option (List (List UInt8)) :=
 match v with
 | (a2, x3) => s_l10Head_L1b o go a2 x3
def s_l10Head (o : PObj) : Option (List (List UInt8)) :=
 itr (s_l10Head_L1 o) LF (([100, 101, 102, 105, 110, 101, 115] : List UInt8), 0)
def s_l10Lines_L2b (x2 : Int) (go4 : (Int × List (List UInt8)) → Option (List (List UInt8))) (x5 : PCode) (go11 : (Int × List (List UInt8)) → Option (List (List UInt8))) (x9 : Int) (out10 : List (List UInt8)) : Option (List (List UInt8)) :=
 if x9 < (x5.instrs.length : Int) then
  bnd (nth x5.instrs x9) fun x12 =>
  bnd (s_FormatInstr x12) fun x13 =>
  chk ((out10.length + ([x13] : List (List UInt8)).length) * 16 ≤ 140737488355328) <|
  chk (I64 (x9 + 1)) <|
  go11 ((x9 + 1), (out10 ++ ([x13] : List (List UInt8))))
 else
  chk (I64 (x2 + 1)) <|
  go4 ((x2 + 1), out10)
def s_l10Lines_L2 (x2 : Int) (go4 : (Int × List (List UInt8)) → Option (List (List UInt8))) (x5 : PCode) (go : (Int × List (List UInt8)) → Option (List (List UInt8))) (v : Int × List (List UInt8)) : Option (List (List UInt8)) :=
 match v with
 | (x9, out10) => s_l10Lines_L2b x2 go4 x5 go x9 out10
def s_l10Lines_L1b (m : PImage) (go4 : (Int × List (List UInt8)) → Option (List (List UInt8))) (x2 : Int) (out3 : List (List UInt8)) : Option (List (List UInt8)) :=
 if x2 < (m.codes.length : Int) then
  bnd (nth m.codes x2) fun x5 =>
  bnd (s_FormatNumber x5.params) fun x6 =>
  chk (([99, 111, 100, 101, 32] : List UInt8).length + x6.length ≤ 9223372036854775807) <|
  chk ((([99, 111, 100, 101, 32] : List UInt8) ++ x6).length + ([32] : List UInt8).length ≤ 9223372036854775807) <|
  bnd (s_FormatNumber x5.slots) fun x7 =>
  chk (((([99, 111, 100, 101, 32] : List UInt8) ++ x6) ++ ([32] : List UInt8)).length + x7.length ≤ 9223372036854775807) <|
  chk ((((([99, 111, 100, 101, 32] : List UInt8) ++ x6) ++ ([32] : List UInt8)) ++ x7).length + ([32] : List UInt8).length ≤ 9223372036854775807) <|
  bnd (s_FormatNumber x5.captures) fun x8 =>
  chk (((((([99, 111, 100, 101, 32] : List UInt8) ++ x6) ++ ([32] : List UInt8)) ++ x7) ++ ([32] : List UInt8)).length + x8.length ≤ 9223372036854775807) <|
  chk ((out3.length + ([(((((([99, 111, 100, 101, 32] : List UInt8) ++ x6) ++ ([32] : List UInt8)) ++ x7) ++ ([32] : List UInt8)) ++ x8)] : List (List UInt8)).length) * 16 ≤ 140737488355328) <|
  itr (s_l10Lines_L2 x2 go4 x5) LF (0, (out3 ++ ([(((((([99, 111, 100, 101, 32] : List UInt8) ++ x6) ++ ([32] : List UInt8)) ++ x7) ++ ([32] : List UInt8)) ++ x8)] : List (List UInt8))))
 else
  some out3
def s_l10Lines_L1 (m : PImage) (go : (Int × List (List UInt8)) → Option (List (List UInt8))) (v : Int × List (List UInt8)) : Option (List (List UInt8)) :=
 match v with
 | (x2, out3) => s_l10Lines_L1b m go x2 out3
def s_l10Lines (m : PImage) : Option (List (List UInt8)) :=
 itr (s_l10Lines_L1 m) LF (0, ([] : List (List UInt8)))
def s_FormatObject (o : PObj) : Option (List (List UInt8)) :=
 bnd (s_IsObject o) fun x2 =>
 if x2 = true then
  bnd (s_l10Head o) fun x3 =>
  bnd (s_l10Lines o.image) fun x4 =>
  chk ((x3.length + x4.length) * 16 ≤ 140737488355328) <|
  some (x3 ++ x4)
 else
  some []
end Go.Abs

namespace Go.Abs
set_option linter.unusedVariables false
def w_eqStringS_L1b (a : List (List UInt8)) (b : List (List UInt8)) (go4 : Int → Option Bool) (i3 : Int) : Option Bool :=
 if i3 < (a.length : Int) then
  bnd (nth a i3) fun x5 =>
  bnd (nth b i3) fun x6 =>
  if x5 = x6 then
   chk (I64 (i3 + 1)) <|
   go4 (i3 + 1)
  else
   some false
 else
  some true
def w_eqStringS_L1 (a : List (List UInt8)) (b : List (List UInt8)) (go : Int → Option Bool) (v : Int) : Option Bool :=
 match v with
 | i3 => w_eqStringS_L1b a b go i3
def w_eqStringS (a : List (List UInt8)) (b : List (List UInt8)) : Option Bool :=
 if (a.length : Int) = (b.length : Int) then
  itr (w_eqStringS_L1 a b) LF 0
 else
  some false
def w_markText_L1b (go4 : (Int × List UInt8) → Option (List UInt8)) (k2 : Int) (out3 : List UInt8) : Option (List UInt8) :=
 if k2 > 0 then
  chk (0 ≤ k2 ∧ k2 ≤ 9223372036854775807 ∧ (0 : Int) < 10) <|
  chk (I64 (48 + (k2 % 10))) <|
  chk (0 ≤ (48 + (k2 % 10)) ∧ (48 + (k2 % 10)) ≤ 255) <|
  chk (([(UInt8.ofNat (48 + (k2 % 10)).toNat)] : List UInt8).length + out3.length ≤ 9223372036854775807) <|
  chk (0 ≤ k2 ∧ k2 ≤ 9223372036854775807 ∧ (0 : Int) < 10) <|
  go4 ((k2 / 10), (([(UInt8.ofNat (48 + (k2 % 10)).toNat)] : List UInt8) ++ out3))
 else
  chk (([109] : List UInt8).length + out3.length ≤ 9223372036854775807) <|
  some (([109] : List UInt8) ++ out3)
def w_markText_L1 (go : (Int × List UInt8) → Option (List UInt8)) (v : Int × List UInt8) : Option (List UInt8) :=
 match v with
 | (k2, out3) => w_markText_L1b go k2 out3
def w_markText (k : Int) : Option (List UInt8) :=
 if k ≤ 0 then
  some ([109, 48] : List UInt8)
 else
  itr w_markText_L1 LF (k, ([] : List UInt8))
def w_markStringS_L1b (go6 : (Int × Int × List (List UInt8)) → Option (Int × List (List UInt8))) (k3 : Int) (i4 : Int) (a5 : List (List UInt8)) : Option (Int × List (List UInt8)) :=
 if i4 < (a5.length : Int) then
  bnd (w_markText k3) fun x7 =>
  bnd (nth a5 i4) fun x8 =>
  chk (I64 (k3 + 1)) <|
  chk (I64 (i4 + 1)) <|
  go6 ((k3 + 1), (i4 + 1), (a5.set i4.toNat x7))
 else
  some (k3, a5)
def w_markStringS_L1 (go : (Int × Int × List (List UInt8)) → Option (Int × List (List UInt8))) (v : Int × Int × List (List UInt8)) : Option (Int × List (List UInt8)) :=
 match v with
 | (k3, i4, a5) => w_markStringS_L1b go k3 i4 a5
def w_markStringS (a : List (List UInt8)) (k : Int) : Option (Int × List (List UInt8)) :=
 itr w_markStringS_L1 LF (k, 0, a)
def w_heldStringS_L1b (a : List (List UInt8)) (go5 : (Int × Int) → Option Int) (k3 : Int) (i4 : Int) : Option Int :=
 if i4 < (a.length : Int) then
  bnd (nth a i4) fun x6 =>
  bnd (w_markText k3) fun x7 =>
  if x6 = x7 then
   chk (I64 (k3 + 1)) <|
   chk (I64 (i4 + 1)) <|
   go5 ((k3 + 1), (i4 + 1))
  else
   some (-1)
 else
  some k3
def w_heldStringS_L1 (a : List (List UInt8)) (go : (Int × Int) → Option Int) (v : Int × Int) : Option Int :=
 match v with
 | (k3, i4) => w_heldStringS_L1b a go k3 i4
def w_heldStringS (a : List (List UInt8)) (k : Int) : Option Int :=
 itr (w_heldStringS_L1 a) LF (k, 0)
def w_markIntS_L1b (go6 : (Int × Int × List Int) → Option (Int × List Int)) (k3 : Int) (i4 : Int) (a5 : List Int) : Option (Int × List Int) :=
 if i4 < (a5.length : Int) then
  bnd (nth a5 i4) fun x7 =>
  chk (I64 (k3 + 1)) <|
  chk (I64 (i4 + 1)) <|
  go6 ((k3 + 1), (i4 + 1), (a5.set i4.toNat k3))
 else
  some (k3, a5)
def w_markIntS_L1 (go : (Int × Int × List Int) → Option (Int × List Int)) (v : Int × Int × List Int) : Option (Int × List Int) :=
 match v with
 | (k3, i4, a5) => w_markIntS_L1b go k3 i4 a5
def w_markIntS (a : List Int) (k : Int) : Option (Int × List Int) :=
 itr w_markIntS_L1 LF (k, 0, a)
def w_markDatumS_L1b (w_markDatumS : List PDat → Int → Option (Int × List PDat)) (go7 : (Int × Int × List PDat) → Option (Int × List PDat)) (k4 : Int) (i5 : Int) (a6 : List PDat) : Option (Int × List PDat) :=
 if i5 < (a6.length : Int) then
  bnd (nth a6 i5) fun x8 =>
  chk (I64 (k4 + 1)) <|
  bnd (nth (a6.set i5.toNat (PDat.mk k4 x8.number x8.text x8.items)) i5) fun x9 =>
  chk (I64 ((k4 + 1) + 1)) <|
  bnd (w_markText ((k4 + 1) + 1)) fun x10 =>
  bnd (nth ((a6.set i5.toNat (PDat.mk k4 x8.number x8.text x8.items)).set i5.toNat (PDat.mk x9.kind (k4 + 1) x9.text x9.items)) i5) fun x11 =>
  chk (I64 (((k4 + 1) + 1) + 1)) <|
  bnd (nth (((a6.set i5.toNat (PDat.mk k4 x8.number x8.text x8.items)).set i5.toNat (PDat.mk x9.kind (k4 + 1) x9.text x9.items)).set i5.toNat (PDat.mk x11.kind x11.number x10 x11.items)) i5) fun x12 =>
  bnd (w_markDatumS x12.items (((k4 + 1) + 1) + 1)) fun x13 =>
  chk (x13.2.length = x12.items.length) <|
  chk (I64 (i5 + 1)) <|
  go7 (x13.1, (i5 + 1), ((((a6.set i5.toNat (PDat.mk k4 x8.number x8.text x8.items)).set i5.toNat (PDat.mk x9.kind (k4 + 1) x9.text x9.items)).set i5.toNat (PDat.mk x11.kind x11.number x10 x11.items)).set i5.toNat (PDat.mk x12.kind x12.number x12.text x13.2)))
 else
  some (k4, a6)
def w_markDatumS_L1 (w_markDatumS : List PDat → Int → Option (Int × List PDat)) (go : (Int × Int × List PDat) → Option (Int × List PDat)) (v : Int × Int × List PDat) : Option (Int × List PDat) :=
 match v with
 | (k4, i5, a6) => w_markDatumS_L1b w_markDatumS go k4 i5 a6
def w_markDatumS_b (w_markDatumS : List PDat → Int → Option (Int × List PDat)) (a : List PDat) (k : Int) : Option (Int × List PDat) :=
 itr (w_markDatumS_L1 w_markDatumS) LF (k, 0, a)
def w_markDatumS : Nat → List PDat → Int → Option (Int × List PDat)
 | 0, _, _ => none
 | n + 1, a, k => w_markDatumS_b (w_markDatumS n) a k
def w_markInstrS_L1b (a : List PInstr) (go6 : (Int × Int × List PInstr) → Option (Int × List PInstr)) (k3 : Int) (i4 : Int) (a5 : List PInstr) : Option (Int × List PInstr) :=
 if i4 < (a5.length : Int) then
  bnd (nth a5 i4) fun x7 =>
  chk (I64 (k3 + 1)) <|
  bnd (nth (a5.set i4.toNat (PInstr.mk k3 x7.a x7.d)) i4) fun x8 =>
  chk (I64 ((k3 + 1) + 1)) <|
  bnd (nth ((a5.set i4.toNat (PInstr.mk k3 x7.a x7.d)).set i4.toNat (PInstr.mk x8.op (k3 + 1) x8.d)) i4) fun x9 =>
  chk (I64 (((k3 + 1) + 1) + 1)) <|
  bnd (nth (((a5.set i4.toNat (PInstr.mk k3 x7.a x7.d)).set i4.toNat (PInstr.mk x8.op (k3 + 1) x8.d)).set i4.toNat (PInstr.mk x9.op x9.a (PDat.mk ((k3 + 1) + 1) x9.d.number x9.d.text x9.d.items))) i4) fun x10 =>
  chk (I64 ((((k3 + 1) + 1) + 1) + 1)) <|
  bnd (w_markText ((((k3 + 1) + 1) + 1) + 1)) fun x11 =>
  bnd (nth ((((a5.set i4.toNat (PInstr.mk k3 x7.a x7.d)).set i4.toNat (PInstr.mk x8.op (k3 + 1) x8.d)).set i4.toNat (PInstr.mk x9.op x9.a (PDat.mk ((k3 + 1) + 1) x9.d.number x9.d.text x9.d.items))).set i4.toNat (PInstr.mk x10.op x10.a (PDat.mk x10.d.kind (((k3 + 1) + 1) + 1) x10.d.text x10.d.items))) i4) fun x12 =>
  chk (I64 (((((k3 + 1) + 1) + 1) + 1) + 1)) <|
  bnd (nth (((((a5.set i4.toNat (PInstr.mk k3 x7.a x7.d)).set i4.toNat (PInstr.mk x8.op (k3 + 1) x8.d)).set i4.toNat (PInstr.mk x9.op x9.a (PDat.mk ((k3 + 1) + 1) x9.d.number x9.d.text x9.d.items))).set i4.toNat (PInstr.mk x10.op x10.a (PDat.mk x10.d.kind (((k3 + 1) + 1) + 1) x10.d.text x10.d.items))).set i4.toNat (PInstr.mk x12.op x12.a (PDat.mk x12.d.kind x12.d.number x11 x12.d.items))) i4) fun x13 =>
  bnd (w_markDatumS RF x13.d.items (((((k3 + 1) + 1) + 1) + 1) + 1)) fun x14 =>
  chk (x14.2.length = x13.d.items.length) <|
  chk (I64 (i4 + 1)) <|
  go6 (x14.1, (i4 + 1), ((((((a5.set i4.toNat (PInstr.mk k3 x7.a x7.d)).set i4.toNat (PInstr.mk x8.op (k3 + 1) x8.d)).set i4.toNat (PInstr.mk x9.op x9.a (PDat.mk ((k3 + 1) + 1) x9.d.number x9.d.text x9.d.items))).set i4.toNat (PInstr.mk x10.op x10.a (PDat.mk x10.d.kind (((k3 + 1) + 1) + 1) x10.d.text x10.d.items))).set i4.toNat (PInstr.mk x12.op x12.a (PDat.mk x12.d.kind x12.d.number x11 x12.d.items))).set i4.toNat (PInstr.mk x13.op x13.a (PDat.mk x13.d.kind x13.d.number x13.d.text x14.2))))
 else
  some (k3, a5)
def w_markInstrS_L1 (a : List PInstr) (go : (Int × Int × List PInstr) → Option (Int × List PInstr)) (v : Int × Int × List PInstr) : Option (Int × List PInstr) :=
 match v with
 | (k3, i4, a5) => w_markInstrS_L1b a go k3 i4 a5
def w_markInstrS (a : List PInstr) (k : Int) : Option (Int × List PInstr) :=
 itr (w_markInstrS_L1 a) LF (k, 0, a)
def w_markCodeS_L1b (go6 : (Int × Int × List PCode) → Option (Int × List PCode)) (k3 : Int) (i4 : Int) (a5 : List PCode) : Option (Int × List PCode) :=
 if i4 < (a5.length : Int) then
  bnd (nth a5 i4) fun x7 =>
  chk (I64 (k3 + 1)) <|
  bnd (nth (a5.set i4.toNat (PCode.mk k3 x7.slots x7.captures x7.instrs)) i4) fun x8 =>
  chk (I64 ((k3 + 1) + 1)) <|
  bnd (nth ((a5.set i4.toNat (PCode.mk k3 x7.slots x7.captures x7.instrs)).set i4.toNat (PCode.mk x8.params (k3 + 1) x8.captures x8.instrs)) i4) fun x9 =>
  chk (I64 (((k3 + 1) + 1) + 1)) <|
  bnd (nth (((a5.set i4.toNat (PCode.mk k3 x7.slots x7.captures x7.instrs)).set i4.toNat (PCode.mk x8.params (k3 + 1) x8.captures x8.instrs)).set i4.toNat (PCode.mk x9.params x9.slots ((k3 + 1) + 1) x9.instrs)) i4) fun x10 =>
  bnd (w_markInstrS x10.instrs (((k3 + 1) + 1) + 1)) fun x11 =>
  chk (x11.2.length = x10.instrs.length) <|
  chk (I64 (i4 + 1)) <|
  go6 (x11.1, (i4 + 1), ((((a5.set i4.toNat (PCode.mk k3 x7.slots x7.captures x7.instrs)).set i4.toNat (PCode.mk x8.params (k3 + 1) x8.captures x8.instrs)).set i4.toNat (PCode.mk x9.params x9.slots ((k3 + 1) + 1) x9.instrs)).set i4.toNat (PCode.mk x10.params x10.slots x10.captures x11.2)))
 else
  some (k3, a5)
def w_markCodeS_L1 (go : (Int × Int × List PCode) → Option (Int × List PCode)) (v : Int × Int × List PCode) : Option (Int × List PCode) :=
 match v with
 | (k3, i4, a5) => w_markCodeS_L1b go k3 i4 a5
def w_markCodeS (a : List PCode) (k : Int) : Option (Int × List PCode) :=
 itr w_markCodeS_L1 LF (k, 0, a)
def w_markImage (a : PImage) (k : Int) : Option (Int × List PCode) :=
 bnd (w_markCodeS a.codes k) fun x3 =>
 chk (x3.2.length = a.codes.length) <|
 some (x3.1, x3.2)
def w_markObject (a : PObj) (k : Int) : Option (Int × List Int × List Int × List PCode) :=
 bnd (w_markIntS a.defines k) fun x3 =>
 chk (x3.2.length = a.defines.length) <|
 bnd (w_markIntS a.uses x3.1) fun x4 =>
 chk (x4.2.length = a.uses.length) <|
 bnd (w_markImage a.image x4.1) fun x5 =>
 chk (x5.2.length = a.image.codes.length) <|
 some (x5.1, x3.2, x4.2, x5.2)
end Go.Abs

namespace Go.Abs
set_option linter.unusedVariables false
def w_FnExactFormatObject (aO : PObj) : Option Bool :=
 bnd (w_szObject aO 1048576) fun x2 =>
 if x2 < 0 then
  some true
 else
  bnd (w_toObject aO) fun x3 =>
  bnd (s_FormatObject x3) fun x4 =>
  bnd (w_toObject aO) fun x5 =>
  bnd (i_FormatObject x5) fun x6 =>
  bnd (w_eqStringS x6 x4) fun x7 =>
  if x7 = true then
   bnd (w_toObject aO) fun x8 =>
   bnd (w_eqObject x5 x8) fun x9 =>
   if x9 = true then
    bnd (w_markObject x5 1) fun x10 =>
    chk (x10.2.1.length = x5.defines.length) <|
    chk (x10.2.2.1.length = x5.uses.length) <|
    chk (x10.2.2.2.length = x5.image.codes.length) <|
    if x10.1 < 0 then
     some false
    else
     bnd (w_eqStringS x6 x4) fun x11 =>
     if x11 = true then
      bnd (w_markStringS x6 1) fun x12 =>
      chk (x12.2.length = x6.length) <|
      bnd (w_heldStringS x12.2 1) fun x13 =>
      if x13 < 0 then
       some false
      else
       if x13 = x12.1 then
        bnd (w_toObject aO) fun x14 =>
        bnd (i_FormatObject x14) fun x15 =>
        bnd (w_eqStringS x15 x4) fun x16 =>
        if x16 = true then
         bnd (w_heldStringS x12.2 1) fun x17 =>
         if x17 < 0 then
          some false
         else
          if x17 = x12.1 then
           some true
          else
           some false
        else
         some false
       else
        some false
     else
      some false
   else
    some false
  else
   some false
end Go.Abs
