/-
  Programs, made by wip/gen: C
-/
import Derived.Test.YtmgigglpdhoneaaDoorGpB
set_option linter.unusedVariables false
set_option linter.unusedSimpArgs false
namespace Go.Abs
set_option linter.unusedVariables false

def s_l1In (x_1 : Int) (a : Int) (b : Int) : Option Bool :=
  if x_1 ≥ a then
    some (decide (x_1 ≤ b))
  else
    some false

def s_EqualData_L1b (s_EqualData : PDat → PDat → Option Bool) (a : PDat) (b : PDat) (go5 : Int → Option Bool) (x4 : Int) : Option Bool :=
  if x4 < (a.items.length : Int) then
    bnd (nth a.items x4) fun x6 =>
    bnd (nth b.items x4) fun x7 =>
    bnd (s_EqualData x6 x7) fun x8 =>
    if x8 = true then
      chk (I64 (x4 + 1)) <|
      go5 (x4 + 1)
    else
      some false
  else
    some true

def s_EqualData_L1 (s_EqualData : PDat → PDat → Option Bool) (a : PDat) (b : PDat) (go : Int → Option Bool) (v : Int) : Option Bool :=
  match v with
  | x4 => s_EqualData_L1b s_EqualData a b go x4

def s_EqualData_b (s_EqualData : PDat → PDat → Option Bool) (a : PDat) (b : PDat) : Option Bool :=
  if a.kind = b.kind then
    if a.number = b.number then
      if a.text = b.text then
        if (a.items.length : Int) = (b.items.length : Int) then
          itr (s_EqualData_L1 s_EqualData a b) LF 0
        else
          some false
      else
        some false
    else
      some false
  else
    some false

def s_EqualData : Nat → PDat → PDat → Option Bool
  | 0, _, _ => none
  | n + 1, a, b => s_EqualData_b (s_EqualData n) a b

def s_l1Digit (b : Int) : Option Bool :=
  if b ≥ 48 then
    some (decide (b ≤ 57))
  else
    some false

def s_l1Mark_L2b (b : Int) (go4 : Int → Option Bool) (i3 : Int) : Option Bool :=
  if i3 < (([33, 63, 42, 60, 62, 61, 47, 43, 45, 46, 95] : List UInt8).length : Int) then
    bnd (nth ([33, 63, 42, 60, 62, 61, 47, 43, 45, 46, 95] : List UInt8) i3) fun x5 =>
    if (x5.toNat : Int) = b then
      some true
    else
      chk (I64 (i3 + 1)) <|
      go4 (i3 + 1)
  else
    some false

def s_l1Mark_L2 (b : Int) (go : Int → Option Bool) (v : Int) : Option Bool :=
  match v with
  | i3 => s_l1Mark_L2b b go i3

def s_l1Mark_J1 (b : Int) (x2 : Bool) : Option Bool :=
  if x2 = true then
    some true
  else
    itr (s_l1Mark_L2 b) LF 0

def s_l1Mark (b : Int) : Option Bool :=
  if b ≥ 97 then
    if b ≤ 122 then
      s_l1Mark_J1 b true
    else
      bnd (s_l1Digit b) fun x2 =>
      s_l1Mark_J1 b x2
  else
    bnd (s_l1Digit b) fun x2 =>
    s_l1Mark_J1 b x2

def s_IsSymbol_L2b (s : List UInt8) (go4 : Int → Option Bool) (i3 : Int) : Option Bool :=
  if i3 < (s.length : Int) then
    bnd (nth s i3) fun x5 =>
    bnd (s_l1Mark (x5.toNat : Int)) fun x6 =>
    if x6 = true then
      chk (I64 (i3 + 1)) <|
      go4 (i3 + 1)
    else
      some false
  else
    some true

def s_IsSymbol_L2 (s : List UInt8) (go : Int → Option Bool) (v : Int) : Option Bool :=
  match v with
  | i3 => s_IsSymbol_L2b s go i3

def s_IsSymbol_J1 (s : List UInt8) (x2 : Bool) : Option Bool :=
  if x2 = true then
    some false
  else
    itr (s_IsSymbol_L2 s) LF 0

def s_IsSymbol (s : List UInt8) : Option Bool :=
  bnd (s_l1In (s.length : Int) 1 16) fun x2 =>
  if x2 = true then
    bnd (nth s 0) fun x3 =>
    bnd (s_l1Digit (x3.toNat : Int)) fun x4 =>
    if x4 = true then
      s_IsSymbol_J1 s true
    else
      bnd (nth s 0) fun x5 =>
      if (x5.toNat : Int) = 45 then
        if (s.length : Int) > 1 then
          bnd (nth s 1) fun x6 =>
          bnd (s_l1Digit (x6.toNat : Int)) fun x7 =>
          s_IsSymbol_J1 s x7
        else
          s_IsSymbol_J1 s false
      else
        s_IsSymbol_J1 s false
  else
    s_IsSymbol_J1 s true

def s_l1String_L1b (s : List UInt8) (go3 : Int → Option Bool) (i2 : Int) : Option Bool :=
  if i2 < (s.length : Int) then
    bnd (nth s i2) fun x4 =>
    if (x4.toNat : Int) < 32 then
      some false
    else
      bnd (nth s i2) fun x5 =>
      if (x5.toNat : Int) > 126 then
        some false
      else
        bnd (nth s i2) fun x6 =>
        if (x6.toNat : Int) = 34 then
          some false
        else
          chk (I64 (i2 + 1)) <|
          go3 (i2 + 1)
  else
    some (decide ((s.length : Int) ≤ 20))

def s_l1String_L1 (s : List UInt8) (go : Int → Option Bool) (v : Int) : Option Bool :=
  match v with
  | i2 => s_l1String_L1b s go i2

def s_l1String (s : List UInt8) : Option Bool :=
  itr (s_l1String_L1 s) LF 0

def s_l1Node (kind : Int) (number : Int) (text : List UInt8) (items : Int) : Option Bool :=
  if kind = 0 then
    if number = 0 then
      some (decide (text = ([] : List UInt8)))
    else
      some false
  else
    if kind = 1 then
      if number = 0 then
        bnd (s_IsSymbol text) fun x5 =>
        if x5 = true then
          some (decide (items = 0))
        else
          some false
      else
        some false
    else
      if kind = 2 then
        bnd (s_l1In number (-999999999) 999999999) fun x5 =>
        if x5 = true then
          if text = ([] : List UInt8) then
            some (decide (items = 0))
          else
            some false
        else
          some false
      else
        if kind = 3 then
          bnd (s_l1In number 0 1) fun x5 =>
          if x5 = true then
            if text = ([] : List UInt8) then
              some (decide (items = 0))
            else
              some false
          else
            some false
        else
          if kind = 4 then
            if number = 0 then
              bnd (s_l1String text) fun x5 =>
              if x5 = true then
                some (decide (items = 0))
              else
                some false
            else
              some false
          else
            some false

def s_l1Nodes_L1b (s_l1Nodes : PDat → Option Bool) (d : PDat) (go4 : Int → Option Bool) (x3 : Int) : Option Bool :=
  if x3 < (d.items.length : Int) then
    bnd (nth d.items x3) fun x5 =>
    bnd (s_l1Nodes x5) fun x6 =>
    if x6 = true then
      chk (I64 (x3 + 1)) <|
      go4 (x3 + 1)
    else
      some false
  else
    bnd (s_l1Node d.kind d.number d.text (d.items.length : Int)) fun x5 =>
    some x5

def s_l1Nodes_L1 (s_l1Nodes : PDat → Option Bool) (d : PDat) (go : Int → Option Bool) (v : Int) : Option Bool :=
  match v with
  | x3 => s_l1Nodes_L1b s_l1Nodes d go x3

def s_l1Nodes_b (s_l1Nodes : PDat → Option Bool) (d : PDat) : Option Bool :=
  itr (s_l1Nodes_L1 s_l1Nodes d) LF 0

def s_l1Nodes : Nat → PDat → Option Bool
  | 0, _ => none
  | n + 1, d => s_l1Nodes_b (s_l1Nodes n) d

def s_DepthOf_L1b (s_DepthOf : PDat → Option Int) (d : PDat) (go5 : (Int × Int) → Option Int) (x3 : Int) (x4 : Int) : Option Int :=
  if x4 < (d.items.length : Int) then
    bnd (nth d.items x4) fun x6 =>
    bnd (s_DepthOf x6) fun x7 =>
    chk (I64 (x4 + 1)) <|
    go5 ((max x3 x7), (x4 + 1))
  else
    chk (I64 (x3 + 1)) <|
    some (x3 + 1)

def s_DepthOf_L1 (s_DepthOf : PDat → Option Int) (d : PDat) (go : (Int × Int) → Option Int) (v : Int × Int) : Option Int :=
  match v with
  | (x3, x4) => s_DepthOf_L1b s_DepthOf d go x3 x4

def s_DepthOf_b (s_DepthOf : PDat → Option Int) (d : PDat) : Option Int :=
  itr (s_DepthOf_L1 s_DepthOf d) LF (0, 0)

def s_DepthOf : Nat → PDat → Option Int
  | 0, _ => none
  | n + 1, d => s_DepthOf_b (s_DepthOf n) d

def s_l1Few_J2 (s_l1Few : PDat → Int → Option (Bool × Int)) (d : PDat) (i4 : Int) (left5 : Int) (go6 : (Int × Int) → Option (Bool × Int)) (x7 : Bool) : Option (Bool × Int) :=
  if x7 = true then
    bnd (nth d.items i4) fun x8 =>
    bnd (s_l1Few x8 left5) fun x9 =>
    chk (I64 (i4 + 1)) <|
    go6 ((i4 + 1), x9.2)
  else
    some ((decide (left5 ≥ 0)), left5)

def s_l1Few_L1b (s_l1Few : PDat → Int → Option (Bool × Int)) (d : PDat) (go6 : (Int × Int) → Option (Bool × Int)) (i4 : Int) (left5 : Int) : Option (Bool × Int) :=
  if i4 < (d.items.length : Int) then
    s_l1Few_J2 s_l1Few d i4 left5 go6 (decide (left5 ≥ 0))
  else
    s_l1Few_J2 s_l1Few d i4 left5 go6 false

def s_l1Few_L1 (s_l1Few : PDat → Int → Option (Bool × Int)) (d : PDat) (go : (Int × Int) → Option (Bool × Int)) (v : Int × Int) : Option (Bool × Int) :=
  match v with
  | (i4, left5) => s_l1Few_L1b s_l1Few d go i4 left5

def s_l1Few_b (s_l1Few : PDat → Int → Option (Bool × Int)) (d : PDat) (left : Int) : Option (Bool × Int) :=
  chk (I64 (left - 1)) <|
  itr (s_l1Few_L1 s_l1Few d) LF (0, (left - 1))

def s_l1Few : Nat → PDat → Int → Option (Bool × Int)
  | 0, _, _ => none
  | n + 1, d, left => s_l1Few_b (s_l1Few n) d left

def s_IsDatum (d : PDat) : Option Bool :=
  bnd (s_l1Few RF d 600) fun x2 =>
  if x2.1 = true then
    bnd (s_DepthOf RF d) fun x3 =>
    if x3 ≤ 20 then
      bnd (s_l1Nodes RF d) fun x4 =>
      some x4
    else
      some false
  else
    some false

def s_PrimitiveNames : Option (List (List UInt8)) :=
  some ([([43] : List UInt8), ([45] : List UInt8), ([42] : List UInt8), ([61] : List UInt8), ([60] : List UInt8), ([99, 111, 110, 115] : List UInt8), ([99, 97, 114] : List UInt8), ([99, 100, 114] : List UInt8), ([110, 117, 108, 108, 63] : List UInt8), ([112, 97, 105, 114, 63] : List UInt8), ([110, 117, 109, 98, 101, 114, 63] : List UInt8), ([101, 113, 63] : List UInt8), ([110, 111, 116] : List UInt8), ([100, 105, 115, 112, 108, 97, 121] : List UInt8)] : List (List UInt8))

def s_l10Plain (op : Int) : Option Bool :=
  if op = 14 then
    some true
  else
    some (decide (op = 17))

def s_l10Instr (x_1 : PInstr) : Option Bool :=
  bnd (s_l1In x_1.op 1 20) fun x2 =>
  if x2 = true then
    if x_1.op = 1 then
      if x_1.a = 0 then
        bnd (s_IsDatum x_1.d) fun x3 =>
        some x3
      else
        some false
    else
      bnd (s_EqualData RF x_1.d (PDat.mk 0 0 ([] : List UInt8) [])) fun x3 =>
      if x3 = true then
        bnd (s_l1In x_1.a 0 4000) fun x4 =>
        if x4 = true then
          if x_1.a = 0 then
            some true
          else
            bnd (s_l10Plain x_1.op) fun x5 =>
            some (!x5)
        else
          some false
      else
        some false
  else
    some false

def s_l10Fits_J1 (m : PImage) (x_1 : Int) (x_2 : PInstr) (x5 : Bool) : Option Bool :=
  if x5 = true then
    if x_2.a < x_1 then
      bnd (nth m.codes x_2.a) fun x6 =>
      some (decide (x6.params = 0))
    else
      some false
  else
    if x_2.op = 19 then
      if x_2.a < x_1 then
        bnd (nth m.codes x_2.a) fun x6 =>
        some (decide (x6.params = 1))
      else
        some false
    else
      if x_2.op = 12 then
        some (decide (x_2.a ≤ 8))
      else
        if x_2.op = 13 then
          some (decide (x_2.a ≤ 8))
        else
          some true

def s_l10Fits (m : PImage) (x_1 : Int) (x_2 : PInstr) : Option Bool :=
  bnd (nth m.codes x_1) fun x4 =>
  if x_2.op = 2 then
    bnd (s_PrimitiveNames) fun x5 =>
    some (decide (x_2.a < (x5.length : Int)))
  else
    if x_2.op = 3 then
      some (decide (x_2.a < x4.slots))
    else
      if x_2.op = 5 then
        some (decide (x_2.a < x4.slots))
      else
        if x_2.op = 7 then
          some (decide (x_2.a < x4.slots))
        else
          if x_2.op = 9 then
            chk (I64 (x4.slots - 1)) <|
            bnd (s_l1In x_2.a x4.params (x4.slots - 1)) fun x5 =>
            some x5
          else
            if x_2.op = 10 then
              some (decide (x_2.a < x4.params))
            else
              if x_2.op = 4 then
                some (decide (x_2.a < x4.captures))
              else
                if x_2.op = 6 then
                  some (decide (x_2.a < x4.captures))
                else
                  if x_2.op = 8 then
                    some (decide (x_2.a < x4.captures))
                  else
                    if x_2.op = 11 then
                      if x_2.a < x_1 then
                        bnd (nth m.codes x_2.a) fun x5 =>
                        some (decide (x5.params ≤ 8))
                      else
                        some false
                    else
                      if x_2.op = 18 then
                        s_l10Fits_J1 m x_1 x_2 true
                      else
                        s_l10Fits_J1 m x_1 x_2 (decide (x_2.op = 20))

def s_l10Effect (m : PImage) (x_1 : PInstr) : Option (Int × Int) :=
  if x_1.op = 1 then
    some (0, 1)
  else
    if x_1.op = 2 then
      some (0, 1)
    else
      if x_1.op = 3 then
        some (0, 1)
      else
        if x_1.op = 4 then
          some (0, 1)
        else
          if x_1.op = 5 then
            some (0, 1)
          else
            if x_1.op = 6 then
              some (0, 1)
            else
              if x_1.op = 7 then
                some (1, 1)
              else
                if x_1.op = 8 then
                  some (1, 1)
                else
                  if x_1.op = 11 then
                    bnd (nth m.codes x_1.a) fun x3 =>
                    some (x3.captures, 1)
                  else
                    if x_1.op = 18 then
                      bnd (nth m.codes x_1.a) fun x3 =>
                      some (x3.captures, 1)
                    else
                      if x_1.op = 19 then
                        bnd (nth m.codes x_1.a) fun x3 =>
                        some (x3.captures, 1)
                      else
                        if x_1.op = 20 then
                          bnd (nth m.codes x_1.a) fun x3 =>
                          some (x3.captures, 1)
                        else
                          if x_1.op = 12 then
                            chk (I64 (x_1.a + 1)) <|
                            some ((x_1.a + 1), 1)
                          else
                            if x_1.op = 13 then
                              chk (I64 (x_1.a + 1)) <|
                              some ((x_1.a + 1), 0)
                            else
                              if x_1.op = 14 then
                                some (1, 0)
                              else
                                if x_1.op = 17 then
                                  some (1, 0)
                                else
                                  if x_1.op = 16 then
                                    some (1, 0)
                                  else
                                    some (0, 0)

def s_l10Inside (op : Int) : Option Bool :=
  if op = 11 then
    some true
  else
    if op = 18 then
      some true
    else
      if op = 19 then
        some true
      else
        some (decide (op = 20))

def s_l10Code_L1b (m : PImage) (x_1 : Int) (x3 : PCode) (go9 : Int → Option Bool) (x8 : Int) : Option Bool :=
  if x8 < (x3.instrs.length : Int) then
    bnd (nth x3.instrs x8) fun x10 =>
    bnd (s_l10Instr x10) fun x11 =>
    if x11 = true then
      bnd (s_l10Fits m x_1 x10) fun x12 =>
      if x12 = true then
        chk (I64 (x8 + 1)) <|
        go9 (x8 + 1)
      else
        some false
    else
      some false
  else
    some true

def s_l10Code_L1 (m : PImage) (x_1 : Int) (x3 : PCode) (go : Int → Option Bool) (v : Int) : Option Bool :=
  match v with
  | x8 => s_l10Code_L1b m x_1 x3 go x8

def s_l10Code (m : PImage) (x_1 : Int) : Option Bool :=
  bnd (nth m.codes x_1) fun x3 =>
  bnd (s_l1In x3.params 0 8) fun x4 =>
  if x4 = true then
    bnd (s_l1In x3.slots x3.params 500) fun x5 =>
    if x5 = true then
      bnd (s_l1In x3.captures 0 500) fun x6 =>
      if x6 = true then
        bnd (s_l1In (x3.instrs.length : Int) 1 4000) fun x7 =>
        if x7 = true then
          itr (s_l10Code_L1 m x_1 x3) LF 0
        else
          some false
      else
        some false
    else
      some false
  else
    some false

def s_l10Depths_J3 (x8 : Int) (go10 : (Int × List Int) → Option (List Int × Bool)) (depths11 : List Int) : Option (List Int × Bool) :=
  chk (I64 (x8 + 1)) <|
  go10 ((x8 + 1), depths11)

def s_l10Depths_J7 (x13 : Int × Int) (x14 : Int) (x17 : Int) (depths18 : List Int) (go19 : (Int × List Int) → Option (List Int × Bool)) (x20 : Int) (x21 : Bool) : Option (List Int × Bool) :=
  if x21 = true then
    some ([], false)
  else
    chk (I64 ((x14 - x13.1) + x13.2)) <|
    bnd (nth depths18 x20) fun x22 =>
    chk (I64 (x17 + 1)) <|
    go19 ((x17 + 1), (depths18.set x20.toNat ((x14 - x13.1) + x13.2)))

def s_l10Depths_L6b (x3 : PCode) (x8 : Int) (go10 : (Int × List Int) → Option (List Int × Bool)) (x13 : Int × Int) (x14 : Int) (x16 : List Int) (go19 : (Int × List Int) → Option (List Int × Bool)) (x17 : Int) (depths18 : List Int) : Option (List Int × Bool) :=
  if x17 < (x16.length : Int) then
    bnd (nth x16 x17) fun x20 =>
    if x20 ≤ x8 then
      s_l10Depths_J7 x13 x14 x17 depths18 go19 x20 true
    else
      if x20 ≥ (x3.instrs.length : Int) then
        s_l10Depths_J7 x13 x14 x17 depths18 go19 x20 true
      else
        bnd (nth depths18 x20) fun x21 =>
        if x21 ≥ 0 then
          bnd (nth depths18 x20) fun x22 =>
          chk (I64 ((x14 - x13.1) + x13.2)) <|
          s_l10Depths_J7 x13 x14 x17 depths18 go19 x20 (!decide (x22 = ((x14 - x13.1) + x13.2)))
        else
          s_l10Depths_J7 x13 x14 x17 depths18 go19 x20 false
  else
    s_l10Depths_J3 x8 go10 depths18

def s_l10Depths_L6 (x3 : PCode) (x8 : Int) (go10 : (Int × List Int) → Option (List Int × Bool)) (x13 : Int × Int) (x14 : Int) (x16 : List Int) (go : (Int × List Int) → Option (List Int × Bool)) (v : Int × List Int) : Option (List Int × Bool) :=
  match v with
  | (x17, depths18) => s_l10Depths_L6b x3 x8 go10 x13 x14 x16 go x17 depths18

def s_l10Depths_J5 (x3 : PCode) (x8 : Int) (depths9 : List Int) (go10 : (Int × List Int) → Option (List Int × Bool)) (x13 : Int × Int) (x14 : Int) (x16 : List Int) : Option (List Int × Bool) :=
  itr (s_l10Depths_L6 x3 x8 go10 x13 x14 x16) LF (0, depths9)

def s_l10Depths_J8 (x3 : PCode) (x8 : Int) (depths9 : List Int) (go10 : (Int × List Int) → Option (List Int × Bool)) (x11 : PInstr) (x13 : Int × Int) (x14 : Int) (x16 : Bool) : Option (List Int × Bool) :=
  if x16 = true then
    s_l10Depths_J5 x3 x8 depths9 go10 x13 x14 []
  else
    if x11.op = 15 then
      s_l10Depths_J5 x3 x8 depths9 go10 x13 x14 ([x11.a] : List Int)
    else
      if x11.op = 16 then
        chk ((([(x8 + 1)] : List Int).length + ([x11.a] : List Int).length) * 8 ≤ 140737488355328) <|
        s_l10Depths_J5 x3 x8 depths9 go10 x13 x14 (([(x8 + 1)] : List Int) ++ ([x11.a] : List Int))
      else
        s_l10Depths_J5 x3 x8 depths9 go10 x13 x14 ([(x8 + 1)] : List Int)

def s_l10Depths_J4 (x3 : PCode) (x8 : Int) (depths9 : List Int) (go10 : (Int × List Int) → Option (List Int × Bool)) (x11 : PInstr) (x13 : Int × Int) (x14 : Int) (x15 : Bool) : Option (List Int × Bool) :=
  if x15 = true then
    some ([], false)
  else
    chk (I64 (x8 + 1)) <|
    if x11.op = 14 then
      s_l10Depths_J8 x3 x8 depths9 go10 x11 x13 x14 true
    else
      s_l10Depths_J8 x3 x8 depths9 go10 x11 x13 x14 (decide (x11.op = 13))

def s_l10Depths_L2b (m : PImage) (x3 : PCode) (go10 : (Int × List Int) → Option (List Int × Bool)) (x8 : Int) (depths9 : List Int) : Option (List Int × Bool) :=
  if x8 < (x3.instrs.length : Int) then
    bnd (nth x3.instrs x8) fun x11 =>
    bnd (nth depths9 x8) fun x12 =>
    if x12 < 0 then
      s_l10Depths_J3 x8 go10 depths9
    else
      bnd (s_l10Effect m x11) fun x13 =>
      bnd (nth depths9 x8) fun x14 =>
      chk (I64 (x14 - x13.1)) <|
      if (x14 - x13.1) < 0 then
        s_l10Depths_J4 x3 x8 depths9 go10 x11 x13 x14 true
      else
        chk (I64 ((x14 - x13.1) + x13.2)) <|
        if ((x14 - x13.1) + x13.2) > 500 then
          s_l10Depths_J4 x3 x8 depths9 go10 x11 x13 x14 true
        else
          if x11.op = 14 then
            if (x14 - x13.1) = 0 then
              if x11.op = 13 then
                s_l10Depths_J4 x3 x8 depths9 go10 x11 x13 x14 (!decide ((x14 - x13.1) = 0))
              else
                s_l10Depths_J4 x3 x8 depths9 go10 x11 x13 x14 false
            else
              s_l10Depths_J4 x3 x8 depths9 go10 x11 x13 x14 true
          else
            if x11.op = 13 then
              s_l10Depths_J4 x3 x8 depths9 go10 x11 x13 x14 (!decide ((x14 - x13.1) = 0))
            else
              s_l10Depths_J4 x3 x8 depths9 go10 x11 x13 x14 false
  else
    some (depths9, true)

def s_l10Depths_L2 (m : PImage) (x3 : PCode) (go : (Int × List Int) → Option (List Int × Bool)) (v : Int × List Int) : Option (List Int × Bool) :=
  match v with
  | (x8, depths9) => s_l10Depths_L2b m x3 go x8 depths9

def s_l10Depths_L1b (m : PImage) (x3 : PCode) (go6 : (Int × List Int) → Option (List Int × Bool)) (x4 : Int) (depths5 : List Int) : Option (List Int × Bool) :=
  if x4 < ((List.replicate (x3.instrs.length : Int).toNat (0 : Int)).length : Int) then
    bnd (nth depths5 x4) fun x7 =>
    chk (I64 (x4 + 1)) <|
    go6 ((x4 + 1), (depths5.set x4.toNat (-1)))
  else
    if (x3.instrs.length : Int) = 0 then
      some ([], false)
    else
      bnd (nth depths5 0) fun x7 =>
      itr (s_l10Depths_L2 m x3) LF (0, (depths5.set (0 : Int).toNat 0))

def s_l10Depths_L1 (m : PImage) (x3 : PCode) (go : (Int × List Int) → Option (List Int × Bool)) (v : Int × List Int) : Option (List Int × Bool) :=
  match v with
  | (x4, depths5) => s_l10Depths_L1b m x3 go x4 depths5

def s_l10Depths (m : PImage) (x_1 : Int) : Option (List Int × Bool) :=
  bnd (nth m.codes x_1) fun x3 =>
  chk (0 ≤ (x3.instrs.length : Int) ∧ (8 : Nat) * (x3.instrs.length : Int) ≤ 281474976710656 ∧ (x3.instrs.length : Int) ≤ 281474976710656) <|
  itr (s_l10Depths_L1 m x3) LF (0, (List.replicate (x3.instrs.length : Int).toNat (0 : Int)))

def s_StackDepths_L1b (m : PImage) (code : Int) (go5 : Int → Option (List Int × Bool)) (i4 : Int) : Option (List Int × Bool) :=
  if i4 ≤ code then
    bnd (s_l10Code m i4) fun x6 =>
    if x6 = true then
      chk (I64 (i4 + 1)) <|
      go5 (i4 + 1)
    else
      some ([], false)
  else
    bnd (s_l10Depths m code) fun x6 =>
    some (x6.1, x6.2)

def s_StackDepths_L1 (m : PImage) (code : Int) (go : Int → Option (List Int × Bool)) (v : Int) : Option (List Int × Bool) :=
  match v with
  | i4 => s_StackDepths_L1b m code go i4

def s_StackDepths (m : PImage) (code : Int) : Option (List Int × Bool) :=
  chk (I64 ((m.codes.length : Int) - 1)) <|
  bnd (s_l1In code 0 ((m.codes.length : Int) - 1)) fun x3 =>
  if x3 = true then
    itr (s_StackDepths_L1 m code) LF 0
  else
    some ([], false)

def s_l10Tree_J3 (x6 : Int) (go8 : (Int × List Int) → Option Bool) (times9 : List Int) : Option Bool :=
  chk (I64 (x6 + 1)) <|
  go8 ((x6 + 1), times9)

def s_l10Tree_L2b (x2 : Int) (go4 : (Int × List Int) → Option Bool) (x5 : PCode) (go8 : (Int × List Int) → Option Bool) (x6 : Int) (times7 : List Int) : Option Bool :=
  if x6 < (x5.instrs.length : Int) then
    bnd (nth x5.instrs x6) fun x9 =>
    bnd (s_l10Inside x9.op) fun x10 =>
    if x10 = true then
      bnd (nth times7 x9.a) fun x11 =>
      chk (I64 (x11 + 1)) <|
      bnd (nth times7 x9.a) fun x12 =>
      s_l10Tree_J3 x6 go8 (times7.set x9.a.toNat (x11 + 1))
    else
      s_l10Tree_J3 x6 go8 times7
  else
    chk (I64 (x2 + 1)) <|
    go4 ((x2 + 1), times7)

def s_l10Tree_L2 (x2 : Int) (go4 : (Int × List Int) → Option Bool) (x5 : PCode) (go : (Int × List Int) → Option Bool) (v : Int × List Int) : Option Bool :=
  match v with
  | (x6, times7) => s_l10Tree_L2b x2 go4 x5 go x6 times7

def s_l10Tree_J5 (x5 : Int) (go6 : Int → Option Bool) (x8 : Bool) : Option Bool :=
  if x8 = true then
    some false
  else
    chk (I64 (x5 + 1)) <|
    go6 (x5 + 1)

def s_l10Tree_L4b (m : PImage) (times3 : List Int) (go6 : Int → Option Bool) (x5 : Int) : Option Bool :=
  if x5 < (times3.length : Int) then
    bnd (nth times3 x5) fun x7 =>
    if x7 = 1 then
      s_l10Tree_J5 x5 go6 false
    else
      s_l10Tree_J5 x5 go6 (!decide (x5 = m.main))
  else
    some true

def s_l10Tree_L4 (m : PImage) (times3 : List Int) (go : Int → Option Bool) (v : Int) : Option Bool :=
  match v with
  | x5 => s_l10Tree_L4b m times3 go x5

def s_l10Tree_L1b (m : PImage) (go4 : (Int × List Int) → Option Bool) (x2 : Int) (times3 : List Int) : Option Bool :=
  if x2 < (m.codes.length : Int) then
    bnd (nth m.codes x2) fun x5 =>
    itr (s_l10Tree_L2 x2 go4 x5) LF (0, times3)
  else
    itr (s_l10Tree_L4 m times3) LF 0

def s_l10Tree_L1 (m : PImage) (go : (Int × List Int) → Option Bool) (v : Int × List Int) : Option Bool :=
  match v with
  | (x2, times3) => s_l10Tree_L1b m go x2 times3

def s_l10Tree (m : PImage) : Option Bool :=
  chk (0 ≤ (m.codes.length : Int) ∧ (8 : Nat) * (m.codes.length : Int) ≤ 281474976710656 ∧ (m.codes.length : Int) ≤ 281474976710656) <|
  itr (s_l10Tree_L1 m) LF (0, (List.replicate (m.codes.length : Int).toNat (0 : Int)))

def s_IsImage_L1b (m : PImage) (go8 : (Int × Int) → Option Bool) (x6 : Int) (x7 : Int) : Option Bool :=
  if x7 < (m.codes.length : Int) then
    bnd (s_l10Code m x7) fun x9 =>
    if x9 = true then
      bnd (s_l10Depths m x7) fun x10 =>
      if x10.2 = true then
        bnd (nth m.codes x7) fun x11 =>
        chk (I64 (x6 + (x11.instrs.length : Int))) <|
        chk (I64 (x7 + 1)) <|
        go8 ((x6 + (x11.instrs.length : Int)), (x7 + 1))
      else
        some false
    else
      some false
  else
    if x6 ≤ 16000 then
      bnd (s_l10Tree m) fun x9 =>
      some x9
    else
      some false

def s_IsImage_L1 (m : PImage) (go : (Int × Int) → Option Bool) (v : Int × Int) : Option Bool :=
  match v with
  | (x6, x7) => s_IsImage_L1b m go x6 x7

def s_IsImage (m : PImage) (captures : Int) : Option Bool :=
  bnd (s_l1In (m.codes.length : Int) 1 1500) fun x3 =>
  if x3 = true then
    chk (I64 ((m.codes.length : Int) - 1)) <|
    if m.main = ((m.codes.length : Int) - 1) then
      bnd (nth m.codes m.main) fun x4 =>
      if x4.params = 0 then
        bnd (nth m.codes m.main) fun x5 =>
        if x5.captures = captures then
          itr (s_IsImage_L1 m) LF (0, 0)
        else
          some false
      else
        some false
    else
      some false
  else
    some false

def s_EqualImages_L2b (a : PImage) (x3 : Int) (go4 : Int → Option Bool) (x5 : PCode) (x6 : PCode) (go8 : Int → Option Bool) (x7 : Int) : Option Bool :=
  if x7 < (x5.instrs.length : Int) then
    bnd (nth x5.instrs x7) fun x9 =>
    bnd (nth x6.instrs x7) fun x10 =>
    if x9.op = x10.op then
      bnd (nth x5.instrs x7) fun x11 =>
      bnd (nth x6.instrs x7) fun x12 =>
      if x11.a = x12.a then
        bnd (nth x5.instrs x7) fun x13 =>
        bnd (nth x6.instrs x7) fun x14 =>
        bnd (s_EqualData RF x13.d x14.d) fun x15 =>
        if x15 = true then
          chk (I64 (x7 + 1)) <|
          go8 (x7 + 1)
        else
          some false
      else
        some false
    else
      some false
  else
    chk (I64 (x3 + 1)) <|
    go4 (x3 + 1)

def s_EqualImages_L2 (a : PImage) (x3 : Int) (go4 : Int → Option Bool) (x5 : PCode) (x6 : PCode) (go : Int → Option Bool) (v : Int) : Option Bool :=
  match v with
  | x7 => s_EqualImages_L2b a x3 go4 x5 x6 go x7

def s_EqualImages_L1b (a : PImage) (b : PImage) (go4 : Int → Option Bool) (x3 : Int) : Option Bool :=
  if x3 < (a.codes.length : Int) then
    bnd (nth a.codes x3) fun x5 =>
    bnd (nth b.codes x3) fun x6 =>
    if x5.params = x6.params then
      if x5.slots = x6.slots then
        if x5.captures = x6.captures then
          if (x5.instrs.length : Int) = (x6.instrs.length : Int) then
            itr (s_EqualImages_L2 a x3 go4 x5 x6) LF 0
          else
            some false
        else
          some false
      else
        some false
    else
      some false
  else
    some true

def s_EqualImages_L1 (a : PImage) (b : PImage) (go : Int → Option Bool) (v : Int) : Option Bool :=
  match v with
  | x3 => s_EqualImages_L1b a b go x3

def s_EqualImages (a : PImage) (b : PImage) : Option Bool :=
  if (a.codes.length : Int) = (b.codes.length : Int) then
    if a.main = b.main then
      itr (s_EqualImages_L1 a b) LF 0
    else
      some false
  else
    some false

def s_l8Value (x_1 : PVal) (pairs : Int) : Option Bool :=
  if x_1.kind = 0 then
    if x_1.number = 0 then
      some (decide (x_1.text = ([] : List UInt8)))
    else
      some false
  else
    if x_1.kind = 1 then
      if x_1.number = 0 then
        some (decide (x_1.text = ([] : List UInt8)))
      else
        some false
    else
      if x_1.kind = 2 then
        bnd (s_l1In x_1.number 0 1) fun x3 =>
        if x3 = true then
          some (decide (x_1.text = ([] : List UInt8)))
        else
          some false
      else
        if x_1.kind = 3 then
          bnd (s_l1In x_1.number (-999999999) 999999999) fun x3 =>
          if x3 = true then
            some (decide (x_1.text = ([] : List UInt8)))
          else
            some false
        else
          if x_1.kind = 4 then
            if x_1.number = 0 then
              bnd (s_IsSymbol x_1.text) fun x3 =>
              some x3
            else
              some false
          else
            if x_1.kind = 5 then
              if x_1.number = 0 then
                bnd (s_l1String x_1.text) fun x3 =>
                some x3
              else
                some false
            else
              if x_1.kind = 6 then
                bnd (s_PrimitiveNames) fun x3 =>
                chk (I64 ((x3.length : Int) - 1)) <|
                bnd (s_l1In x_1.number 0 ((x3.length : Int) - 1)) fun x4 =>
                if x4 = true then
                  some (decide (x_1.text = ([] : List UInt8)))
                else
                  some false
              else
                if x_1.kind = 7 then
                  chk (I64 (pairs - 1)) <|
                  bnd (s_l1In x_1.number 0 (pairs - 1)) fun x3 =>
                  if x3 = true then
                    some (decide (x_1.text = ([] : List UInt8)))
                  else
                    some false
                else
                  if x_1.kind = 8 then
                    bnd (s_l1In x_1.number 0 2000) fun x3 =>
                    if x3 = true then
                      some (decide (x_1.text = ([] : List UInt8)))
                    else
                      some false
                  else
                    if x_1.kind = 9 then
                      bnd (s_l1In x_1.number 0 2000) fun x3 =>
                      if x3 = true then
                        some (decide (x_1.text = ([] : List UInt8)))
                      else
                        some false
                    else
                      some false

def s_ArePairs_L1b (pairs : List PPair) (go3 : Int → Option Bool) (x2 : Int) : Option Bool :=
  if x2 < (pairs.length : Int) then
    bnd (nth pairs x2) fun x4 =>
    bnd (s_l8Value x4.h x2) fun x5 =>
    if x5 = true then
      bnd (s_l8Value x4.t x2) fun x6 =>
      if x6 = true then
        chk (I64 (x2 + 1)) <|
        go3 (x2 + 1)
      else
        some false
    else
      some false
  else
    some (decide ((pairs.length : Int) ≤ 2000))

def s_ArePairs_L1 (pairs : List PPair) (go : Int → Option Bool) (v : Int) : Option Bool :=
  match v with
  | x2 => s_ArePairs_L1b pairs go x2

def s_ArePairs (pairs : List PPair) : Option Bool :=
  itr (s_ArePairs_L1 pairs) LF 0

def s_IsValue (x_1 : PVal) (pairs : List PPair) : Option Bool :=
  bnd (s_ArePairs pairs) fun x3 =>
  if x3 = true then
    bnd (s_l8Value x_1 (pairs.length : Int)) fun x4 =>
    some x4
  else
    some false

def s_l8Cells_L1b (s_l8Cells : PDat → Option Int) (d : PDat) (go5 : (Int × Int) → Option Int) (x3 : Int) (x4 : Int) : Option Int :=
  if x4 < (d.items.length : Int) then
    bnd (nth d.items x4) fun x6 =>
    chk (I64 (x3 + 1)) <|
    bnd (s_l8Cells x6) fun x7 =>
    chk (I64 ((x3 + 1) + x7)) <|
    chk (I64 (x4 + 1)) <|
    go5 (((x3 + 1) + x7), (x4 + 1))
  else
    some x3

def s_l8Cells_L1 (s_l8Cells : PDat → Option Int) (d : PDat) (go : (Int × Int) → Option Int) (v : Int × Int) : Option Int :=
  match v with
  | (x3, x4) => s_l8Cells_L1b s_l8Cells d go x3 x4

def s_l8Cells_b (s_l8Cells : PDat → Option Int) (d : PDat) : Option Int :=
  itr (s_l8Cells_L1 s_l8Cells d) LF (0, 0)

def s_l8Cells : Nat → PDat → Option Int
  | 0, _ => none
  | n + 1, d => s_l8Cells_b (s_l8Cells n) d

def s_HasScope_L1b (list : List Int) (x_1 : Int) (go4 : Int → Option Bool) (x3 : Int) : Option Bool :=
  if x3 < (list.length : Int) then
    bnd (nth list x3) fun x5 =>
    if x5 = x_1 then
      some true
    else
      chk (I64 (x3 + 1)) <|
      go4 (x3 + 1)
  else
    some false

def s_HasScope_L1 (list : List Int) (x_1 : Int) (go : Int → Option Bool) (v : Int) : Option Bool :=
  match v with
  | x3 => s_HasScope_L1b list x_1 go x3

def s_HasScope (list : List Int) (x_1 : Int) : Option Bool :=
  itr (s_HasScope_L1 list x_1) LF 0

def s_l5Unique_L1b (list : List Int) (go3 : Int → Option Bool) (x2 : Int) : Option Bool :=
  if x2 < (list.length : Int) then
    bnd (nth list x2) fun x4 =>
    bnd (s_l1In x4 0 99999) fun x5 =>
    if x5 = true then
      chk (0 ≤ x2 ∧ x2 ≤ list.length) <|
      bnd (s_HasScope (list.take x2.toNat) x4) fun x6 =>
      if x6 = true then
        some false
      else
        chk (I64 (x2 + 1)) <|
        go3 (x2 + 1)
    else
      some false
  else
    some true

def s_l5Unique_L1 (list : List Int) (go : Int → Option Bool) (v : Int) : Option Bool :=
  match v with
  | x2 => s_l5Unique_L1b list go x2

def s_l5Unique (list : List Int) : Option Bool :=
  itr (s_l5Unique_L1 list) LF 0

def s_l7Name (s : List UInt8) : Option Bool :=
  if (s.length : Int) ≤ 8 then
    bnd (s_IsSymbol s) fun x2 =>
    some x2
  else
    some false

end Go.Abs
