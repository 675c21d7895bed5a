/-
  Programs, made by wip/gen: A
-/
import Derived.Test.YtmgigglpdhoneaaDoorLibD
import Derived.Test.YtmgigglpdhoneaaDoorLibE
set_option linter.unusedVariables false
set_option linter.unusedSimpArgs false
namespace Go.Abs
set_option linter.unusedVariables false

def i_EqualData_L1b (i_EqualData : PDat → PDat → Option Bool) (a : PDat) (b : PDat) (go5 : Int → Option Bool) (x4 : Int) : Option Bool :=
  if x4 < (a.items.length : Int) then
    bnd (nth a.items x4) fun x6 =>
    bnd (nth b.items x4) fun x7 =>
    bnd (i_EqualData x6 x7) fun x8 =>
    if x8 = true then
      chk (I64 (x4 + 1)) <|
      go5 (x4 + 1)
    else
      some false
  else
    some true

def i_EqualData_L1 (i_EqualData : PDat → PDat → Option Bool) (a : PDat) (b : PDat) (go : Int → Option Bool) (v : Int) : Option Bool :=
  match v with
  | x4 => i_EqualData_L1b i_EqualData a b go x4

def i_EqualData_b (i_EqualData : PDat → PDat → Option Bool) (a : PDat) (b : PDat) : Option Bool :=
  if a.kind = b.kind then
    if a.number = b.number then
      if a.text = b.text then
        if (a.items.length : Int) = (b.items.length : Int) then
          itr (i_EqualData_L1 i_EqualData a b) LF 0
        else
          some false
      else
        some false
    else
      some false
  else
    some false

def i_EqualData : Nat → PDat → PDat → Option Bool
  | 0, _, _ => none
  | n + 1, a, b => i_EqualData_b (i_EqualData n) a b

def i_isDigit (b : Int) : Option Bool :=
  if b ≥ 48 then
    some (decide (b ≤ 57))
  else
    some false

def i_symbolByte_J1 (b : Int) (x2 : Bool) : Option Bool :=
  if x2 = true then
    some true
  else
    if b = 33 then
      some true
    else
      if b = 63 then
        some true
      else
        if b = 42 then
          some true
        else
          if b = 60 then
            some true
          else
            if b = 62 then
              some true
            else
              if b = 61 then
                some true
              else
                if b = 47 then
                  some true
                else
                  if b = 43 then
                    some true
                  else
                    if b = 45 then
                      some true
                    else
                      if b = 46 then
                        some true
                      else
                        if b = 95 then
                          some true
                        else
                          some false

def i_symbolByte (b : Int) : Option Bool :=
  if b ≥ 97 then
    if b ≤ 122 then
      i_symbolByte_J1 b true
    else
      if b ≥ 48 then
        i_symbolByte_J1 b (decide (b ≤ 57))
      else
        i_symbolByte_J1 b false
  else
    if b ≥ 48 then
      i_symbolByte_J1 b (decide (b ≤ 57))
    else
      i_symbolByte_J1 b false

def i_IsSymbol_L2b (s : List UInt8) (go4 : Int → Option Bool) (i3 : Int) : Option Bool :=
  if i3 < (s.length : Int) then
    bnd (nth s i3) fun x5 =>
    bnd (i_symbolByte (x5.toNat : Int)) fun x6 =>
    if x6 = true then
      chk (I64 (i3 + 1)) <|
      go4 (i3 + 1)
    else
      some false
  else
    some true

def i_IsSymbol_L2 (s : List UInt8) (go : Int → Option Bool) (v : Int) : Option Bool :=
  match v with
  | i3 => i_IsSymbol_L2b s go i3

def i_IsSymbol_J1 (s : List UInt8) (x2 : Bool) : Option Bool :=
  if x2 = true then
    some false
  else
    itr (i_IsSymbol_L2 s) LF 0

def i_IsSymbol (s : List UInt8) : Option Bool :=
  if (s.length : Int) < 1 then
    i_IsSymbol_J1 s true
  else
    if (s.length : Int) > 16 then
      i_IsSymbol_J1 s true
    else
      bnd (nth s 0) fun x2 =>
      bnd (i_isDigit (x2.toNat : Int)) fun x3 =>
      if x3 = true then
        i_IsSymbol_J1 s true
      else
        bnd (nth s 0) fun x4 =>
        if (x4.toNat : Int) = 45 then
          if (s.length : Int) > 1 then
            bnd (nth s 1) fun x5 =>
            bnd (i_isDigit (x5.toNat : Int)) fun x6 =>
            i_IsSymbol_J1 s x6
          else
            i_IsSymbol_J1 s false
        else
          i_IsSymbol_J1 s false

def i_stringText_L1b (s : List UInt8) (go3 : Int → Option Bool) (i2 : Int) : Option Bool :=
  if i2 < (s.length : Int) then
    bnd (nth s i2) fun x4 =>
    if (x4.toNat : Int) < 32 then
      some false
    else
      bnd (nth s i2) fun x5 =>
      if (x5.toNat : Int) > 126 then
        some false
      else
        bnd (nth s i2) fun x6 =>
        if (x6.toNat : Int) = 34 then
          some false
        else
          chk (I64 (i2 + 1)) <|
          go3 (i2 + 1)
  else
    some true

def i_stringText_L1 (s : List UInt8) (go : Int → Option Bool) (v : Int) : Option Bool :=
  match v with
  | i2 => i_stringText_L1b s go i2

def i_stringText (s : List UInt8) : Option Bool :=
  if (s.length : Int) > 20 then
    some false
  else
    itr (i_stringText_L1 s) LF 0

def i_rightNode (kind : Int) (number : Int) (text : List UInt8) (items : Int) : Option Bool :=
  if kind = 0 then
    if number = 0 then
      some (decide (text = ([] : List UInt8)))
    else
      some false
  else
    if kind = 1 then
      if number = 0 then
        if items = 0 then
          bnd (i_IsSymbol text) fun x5 =>
          some x5
        else
          some false
      else
        some false
    else
      if kind = 2 then
        if number ≥ (-999999999) then
          if number ≤ 999999999 then
            if text = ([] : List UInt8) then
              some (decide (items = 0))
            else
              some false
          else
            some false
        else
          some false
      else
        if kind = 3 then
          if number = 0 then
            if text = ([] : List UInt8) then
              some (decide (items = 0))
            else
              some false
          else
            if number = 1 then
              if text = ([] : List UInt8) then
                some (decide (items = 0))
              else
                some false
            else
              some false
        else
          if kind = 4 then
            if number = 0 then
              if items = 0 then
                bnd (i_stringText text) fun x5 =>
                some x5
              else
                some false
            else
              some false
          else
            some false

def i_measure_L1b (i_measure : PDat → Int → Int → Option (Bool × Int)) (d : PDat) (deep : Int) (go8 : (Int × Int) → Option (Bool × Int)) (x6 : Int) (nodes7 : Int) : Option (Bool × Int) :=
  if x6 < (d.items.length : Int) then
    bnd (nth d.items x6) fun x9 =>
    chk (I64 (deep + 1)) <|
    bnd (i_measure x9 (deep + 1) nodes7) fun x10 =>
    if x10.1 = true then
      chk (I64 (x6 + 1)) <|
      go8 ((x6 + 1), x10.2)
    else
      some (false, x10.2)
  else
    some (true, nodes7)

def i_measure_L1 (i_measure : PDat → Int → Int → Option (Bool × Int)) (d : PDat) (deep : Int) (go : (Int × Int) → Option (Bool × Int)) (v : Int × Int) : Option (Bool × Int) :=
  match v with
  | (x6, nodes7) => i_measure_L1b i_measure d deep go x6 nodes7

def i_measure_b (i_measure : PDat → Int → Int → Option (Bool × Int)) (d : PDat) (deep : Int) (nodes : Int) : Option (Bool × Int) :=
  chk (I64 (nodes + 1)) <|
  if deep > 20 then
    some (false, (nodes + 1))
  else
    if (nodes + 1) > 600 then
      some (false, (nodes + 1))
    else
      bnd (i_rightNode d.kind d.number d.text (d.items.length : Int)) fun x5 =>
      if x5 = true then
        itr (i_measure_L1 i_measure d deep) LF (0, (nodes + 1))
      else
        some (false, (nodes + 1))

def i_measure : Nat → PDat → Int → Int → Option (Bool × Int)
  | 0, _, _, _ => none
  | n + 1, d, deep, nodes => i_measure_b (i_measure n) d deep nodes

def i_IsDatum (d : PDat) : Option Bool :=
  bnd (i_measure RF d 1 0) fun x2 =>
  some x2.1

def i_PrimitiveNames : Option (List (List UInt8)) :=
  some ([([43] : List UInt8), ([45] : List UInt8), ([42] : List UInt8), ([61] : List UInt8), ([60] : List UInt8), ([99, 111, 110, 115] : List UInt8), ([99, 97, 114] : List UInt8), ([99, 100, 114] : List UInt8), ([110, 117, 108, 108, 63] : List UInt8), ([112, 97, 105, 114, 63] : List UInt8), ([110, 117, 109, 98, 101, 114, 63] : List UInt8), ([101, 113, 63] : List UInt8), ([110, 111, 116] : List UInt8), ([100, 105, 115, 112, 108, 97, 121] : List UInt8)] : List (List UInt8))

def i_effect (m : PImage) (x_1 : PInstr) : Option (Int × Int) :=
  if x_1.op = 1 then
    some (0, 1)
  else
    if x_1.op = 2 then
      some (0, 1)
    else
      if x_1.op = 3 then
        some (0, 1)
      else
        if x_1.op = 4 then
          some (0, 1)
        else
          if x_1.op = 5 then
            some (0, 1)
          else
            if x_1.op = 6 then
              some (0, 1)
            else
              if x_1.op = 7 then
                some (1, 1)
              else
                if x_1.op = 8 then
                  some (1, 1)
                else
                  if x_1.op = 11 then
                    bnd (nth m.codes x_1.a) fun x3 =>
                    some (x3.captures, 1)
                  else
                    if x_1.op = 18 then
                      bnd (nth m.codes x_1.a) fun x3 =>
                      some (x3.captures, 1)
                    else
                      if x_1.op = 19 then
                        bnd (nth m.codes x_1.a) fun x3 =>
                        some (x3.captures, 1)
                      else
                        if x_1.op = 20 then
                          bnd (nth m.codes x_1.a) fun x3 =>
                          some (x3.captures, 1)
                        else
                          if x_1.op = 12 then
                            chk (I64 (x_1.a + 1)) <|
                            some ((x_1.a + 1), 1)
                          else
                            if x_1.op = 13 then
                              chk (I64 (x_1.a + 1)) <|
                              some ((x_1.a + 1), 0)
                            else
                              if x_1.op = 14 then
                                some (1, 0)
                              else
                                if x_1.op = 17 then
                                  some (1, 0)
                                else
                                  if x_1.op = 16 then
                                    some (1, 0)
                                  else
                                    some (0, 0)

def i_operandOk_J1 (m : PImage) (k : Int) (x_1 : PInstr) (x5 : Bool) : Option Bool :=
  if x5 = true then
    if x_1.a < k then
      bnd (nth m.codes x_1.a) fun x6 =>
      some (decide (x6.params = 0))
    else
      some false
  else
    if x_1.op = 19 then
      if x_1.a < k then
        bnd (nth m.codes x_1.a) fun x6 =>
        some (decide (x6.params = 1))
      else
        some false
    else
      if x_1.op = 12 then
        some (decide (x_1.a ≤ 8))
      else
        if x_1.op = 13 then
          some (decide (x_1.a ≤ 8))
        else
          some true

def i_operandOk (m : PImage) (c : PCode) (k : Int) (x_1 : PInstr) : Option Bool :=
  if x_1.op = 2 then
    bnd (i_PrimitiveNames) fun x5 =>
    some (decide (x_1.a < (x5.length : Int)))
  else
    if x_1.op = 3 then
      some (decide (x_1.a < c.slots))
    else
      if x_1.op = 5 then
        some (decide (x_1.a < c.slots))
      else
        if x_1.op = 7 then
          some (decide (x_1.a < c.slots))
        else
          if x_1.op = 9 then
            if x_1.a ≥ c.params then
              some (decide (x_1.a < c.slots))
            else
              some false
          else
            if x_1.op = 10 then
              some (decide (x_1.a < c.params))
            else
              if x_1.op = 4 then
                some (decide (x_1.a < c.captures))
              else
                if x_1.op = 6 then
                  some (decide (x_1.a < c.captures))
                else
                  if x_1.op = 8 then
                    some (decide (x_1.a < c.captures))
                  else
                    if x_1.op = 11 then
                      some (decide (x_1.a < k))
                    else
                      if x_1.op = 18 then
                        i_operandOk_J1 m k x_1 true
                      else
                        i_operandOk_J1 m k x_1 (decide (x_1.op = 20))

def i_instrOk (x_1 : PInstr) : Option Bool :=
  if x_1.op < 1 then
    some false
  else
    if x_1.op > 20 then
      some false
    else
      if x_1.op = 1 then
        if x_1.a = 0 then
          bnd (i_IsDatum x_1.d) fun x2 =>
          some x2
        else
          some false
      else
        bnd (i_EqualData RF x_1.d (PDat.mk 0 0 ([] : List UInt8) [])) fun x2 =>
        if x2 = true then
          if x_1.a < 0 then
            some false
          else
            if x_1.a > 4000 then
              some false
            else
              if x_1.a = 0 then
                some true
              else
                if x_1.op = 14 then
                  some false
                else
                  some (!decide (x_1.op = 17))
        else
          some false

def i_codeOk_L1b (m : PImage) (k : Int) (x3 : PCode) (go5 : Int → Option Bool) (x4 : Int) : Option Bool :=
  if x4 < (x3.instrs.length : Int) then
    bnd (nth x3.instrs x4) fun x6 =>
    bnd (i_instrOk x6) fun x7 =>
    if x7 = true then
      bnd (i_operandOk m x3 k x6) fun x8 =>
      if x8 = true then
        chk (I64 (x4 + 1)) <|
        go5 (x4 + 1)
      else
        some false
    else
      some false
  else
    some true

def i_codeOk_L1 (m : PImage) (k : Int) (x3 : PCode) (go : Int → Option Bool) (v : Int) : Option Bool :=
  match v with
  | x4 => i_codeOk_L1b m k x3 go x4

def i_codeOk (m : PImage) (k : Int) : Option Bool :=
  bnd (nth m.codes k) fun x3 =>
  if x3.params < 0 then
    some false
  else
    if x3.params > 8 then
      some false
    else
      if x3.slots < x3.params then
        some false
      else
        if x3.slots > 500 then
          some false
        else
          if x3.captures < 0 then
            some false
          else
            if x3.captures > 500 then
              some false
            else
              if (x3.instrs.length : Int) < 1 then
                some false
              else
                if (x3.instrs.length : Int) > 4000 then
                  some false
                else
                  itr (i_codeOk_L1 m k x3) LF 0

def i_namesCode (op : Int) : Option Bool :=
  if op = 11 then
    some true
  else
    if op = 18 then
      some true
    else
      if op = 19 then
        some true
      else
        some (decide (op = 20))

def i_isFalse (x_1 : PVal) : Option Bool :=
  if x_1.kind = 2 then
    some (decide (x_1.number = 0))
  else
    some false

def i_isPure (primitive : Int) : Option Bool :=
  bnd (i_PrimitiveNames) fun x2 =>
  if primitive ≥ 0 then
    if primitive < (x2.length : Int) then
      bnd (nth x2 primitive) fun x3 =>
      if x3 = ([99, 111, 110, 115] : List UInt8) then
        some false
      else
        bnd (nth x2 primitive) fun x4 =>
        some (!decide (x4 = ([100, 105, 115, 112, 108, 97, 121] : List UInt8)))
    else
      some false
  else
    some false

def i_ArityOf (primitive : Int) : Option Int :=
  bnd (i_PrimitiveNames) fun x2 =>
  if primitive < 0 then
    some (-1)
  else
    if primitive ≥ (x2.length : Int) then
      some (-1)
    else
      bnd (nth x2 primitive) fun x3 =>
      if x3 = ([43] : List UInt8) then
        some 2
      else
        if x3 = ([45] : List UInt8) then
          some 2
        else
          if x3 = ([42] : List UInt8) then
            some 2
          else
            if x3 = ([61] : List UInt8) then
              some 2
            else
              if x3 = ([60] : List UInt8) then
                some 2
              else
                if x3 = ([99, 111, 110, 115] : List UInt8) then
                  some 2
                else
                  if x3 = ([101, 113, 63] : List UInt8) then
                    some 2
                  else
                    some 1

def i_booleanOf (b : Bool) : Option PVal :=
  if b = true then
    some (PVal.mk 2 1 ([] : List UInt8))
  else
    some (PVal.mk 2 0 ([] : List UInt8))

def i_isValue (x_1 : PVal) (pairs : Int) : Option Bool :=
  if x_1.kind = 0 then
    if x_1.number = 0 then
      some (decide (x_1.text = ([] : List UInt8)))
    else
      some false
  else
    if x_1.kind = 1 then
      if x_1.number = 0 then
        some (decide (x_1.text = ([] : List UInt8)))
      else
        some false
    else
      if x_1.kind = 2 then
        if x_1.number = 0 then
          some (decide (x_1.text = ([] : List UInt8)))
        else
          if x_1.number = 1 then
            some (decide (x_1.text = ([] : List UInt8)))
          else
            some false
      else
        if x_1.kind = 3 then
          if x_1.number ≥ (-999999999) then
            if x_1.number ≤ 999999999 then
              some (decide (x_1.text = ([] : List UInt8)))
            else
              some false
          else
            some false
        else
          if x_1.kind = 4 then
            if x_1.number = 0 then
              bnd (i_IsSymbol x_1.text) fun x3 =>
              some x3
            else
              some false
          else
            if x_1.kind = 5 then
              if x_1.number = 0 then
                bnd (i_stringText x_1.text) fun x3 =>
                some x3
              else
                some false
            else
              if x_1.kind = 6 then
                if x_1.number ≥ 0 then
                  bnd (i_PrimitiveNames) fun x3 =>
                  if x_1.number < (x3.length : Int) then
                    some (decide (x_1.text = ([] : List UInt8)))
                  else
                    some false
                else
                  some false
              else
                if x_1.kind = 7 then
                  if x_1.number ≥ 0 then
                    if x_1.number < pairs then
                      some (decide (x_1.text = ([] : List UInt8)))
                    else
                      some false
                  else
                    some false
                else
                  if x_1.kind = 8 then
                    if x_1.number ≥ 0 then
                      if x_1.number ≤ 2000 then
                        some (decide (x_1.text = ([] : List UInt8)))
                      else
                        some false
                    else
                      some false
                  else
                    if x_1.kind = 9 then
                      if x_1.number ≥ 0 then
                        if x_1.number ≤ 2000 then
                          some (decide (x_1.text = ([] : List UInt8)))
                        else
                          some false
                      else
                        some false
                    else
                      some false

def i_ArePairs_L1b (pairs : List PPair) (go3 : Int → Option Bool) (x2 : Int) : Option Bool :=
  if x2 < (pairs.length : Int) then
    bnd (nth pairs x2) fun x4 =>
    bnd (i_isValue x4.h x2) fun x5 =>
    if x5 = true then
      bnd (i_isValue x4.t x2) fun x6 =>
      if x6 = true then
        chk (I64 (x2 + 1)) <|
        go3 (x2 + 1)
      else
        some false
    else
      some false
  else
    some true

def i_ArePairs_L1 (pairs : List PPair) (go : Int → Option Bool) (v : Int) : Option Bool :=
  match v with
  | x2 => i_ArePairs_L1b pairs go x2

def i_ArePairs (pairs : List PPair) : Option Bool :=
  if (pairs.length : Int) > 2000 then
    some false
  else
    itr (i_ArePairs_L1 pairs) LF 0

def i_IsValue (x_1 : PVal) (pairs : List PPair) : Option Bool :=
  bnd (i_ArePairs pairs) fun x3 =>
  if x3 = true then
    bnd (i_isValue x_1 (pairs.length : Int)) fun x4 =>
    some x4
  else
    some false

def i_itemsIn_L1b (i_itemsIn : PDat → Option Int) (d : PDat) (go5 : (Int × Int) → Option Int) (x3 : Int) (x4 : Int) : Option Int :=
  if x4 < (d.items.length : Int) then
    bnd (nth d.items x4) fun x6 =>
    bnd (i_itemsIn x6) fun x7 =>
    chk (I64 (x3 + x7)) <|
    chk (I64 (x4 + 1)) <|
    go5 ((x3 + x7), (x4 + 1))
  else
    some x3

def i_itemsIn_L1 (i_itemsIn : PDat → Option Int) (d : PDat) (go : (Int × Int) → Option Int) (v : Int × Int) : Option Int :=
  match v with
  | (x3, x4) => i_itemsIn_L1b i_itemsIn d go x3 x4

def i_itemsIn_b (i_itemsIn : PDat → Option Int) (d : PDat) : Option Int :=
  itr (i_itemsIn_L1 i_itemsIn d) LF ((d.items.length : Int), 0)

def i_itemsIn : Nat → PDat → Option Int
  | 0, _ => none
  | n + 1, d => i_itemsIn_b (i_itemsIn n) d

end Go.Abs
