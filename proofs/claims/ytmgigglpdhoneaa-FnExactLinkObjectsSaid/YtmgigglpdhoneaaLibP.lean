
import Derived.Test.YtmgigglpdhoneaaLibD
import Derived.Test.YtmgigglpdhoneaaLibE
set_option linter.unusedVariables false
set_option linter.unusedSimpArgs false
namespace Go.Abs
set_option linter.unusedVariables false
def N8 (op : Int) : Option Bool :=
 if op = 11 then
  some true
 else
  if op = 18 then
   some true
  else
   if op = 19 then
    some true
   else
    some (decide (op = 20))
def Y3 (o0 : PD → PD → Option Bool) (a : PD) (b : PD) (go5 : Int → Option Bool) (x4 : Int) : Option Bool :=
 if x4 < (a.items.length : Int) then
  bnd (nth a.items x4) fun x6 =>
  bnd (nth b.items x4) fun x7 =>
  bnd (o0 x6 x7) fun x8 =>
  if x8 = true then
   chk (I64 (x4 + 1)) <|
   go5 (x4 + 1)
  else
   some false
 else
  some true
def bC (o0 : PD → PD → Option Bool) (a : PD) (b : PD) (go : Int → Option Bool) (v : Int) : Option Bool :=
 match v with
 | x4 => Y3 o0 a b go x4
def P7 (o0 : PD → PD → Option Bool) (a : PD) (b : PD) : Option Bool :=
 if a.kind = b.kind then
  if a.number = b.number then
   if a.text = b.text then
    if (a.items.length : Int) = (b.items.length : Int) then
     itr (bC o0 a b) LF 0
    else
     some false
   else
    some false
  else
   some false
 else
  some false
def o0 : Nat → PD → PD → Option Bool
 | 0, _, _ => none
 | n + 1, a, b => P7 (o0 n) a b
def cE (b : Int) : Option Bool :=
 if b ≥ 48 then
  some (decide (b ≤ 57))
 else
  some false
def u3 (b : Int) (x2 : Bool) : Option Bool :=
 if x2 = true then
  some true
 else
  if b = 33 then
   some true
  else
   if b = 63 then
    some true
   else
    if b = 42 then
     some true
    else
     if b = 60 then
      some true
     else
      if b = 62 then
       some true
      else
       if b = 61 then
        some true
       else
        if b = 47 then
         some true
        else
         if b = 43 then
          some true
         else
          if b = 45 then
           some true
          else
           if b = 46 then
            some true
           else
            if b = 95 then
             some true
            else
             some false
def U6 (b : Int) : Option Bool :=
 if b ≥ 97 then
  if b ≤ 122 then
   u3 b true
  else
   if b ≥ 48 then
    u3 b (decide (b ≤ 57))
   else
    u3 b false
 else
  if b ≥ 48 then
   u3 b (decide (b ≤ 57))
  else
   u3 b false
def D6 (s : LB) (go4 : Int → Option Bool) (i3 : Int) : Option Bool :=
 if i3 < (s.length : Int) then
  bnd (nth s i3) fun x5 =>
  bnd (U6 (x5.toNat : Int)) fun x6 =>
  if x6 = true then
   chk (I64 (i3 + 1)) <|
   go4 (i3 + 1)
  else
   some false
 else
  some true
def dF (s : LB) (go : Int → Option Bool) (v : Int) : Option Bool :=
 match v with
 | i3 => D6 s go i3
def u7 (s : LB) (x2 : Bool) : Option Bool :=
 if x2 = true then
  some false
 else
  itr (dF s) LF 0
def X4 (s : LB) : Option Bool :=
 if (s.length : Int) < 1 then
  u7 s true
 else
  if (s.length : Int) > 16 then
   u7 s true
  else
   bnd (nth s 0) fun x2 =>
   bnd (cE (x2.toNat : Int)) fun x3 =>
   if x3 = true then
    u7 s true
   else
    bnd (nth s 0) fun x4 =>
    if (x4.toNat : Int) = 45 then
     if (s.length : Int) > 1 then
      bnd (nth s 1) fun x5 =>
      bnd (cE (x5.toNat : Int)) fun x6 =>
      u7 s x6
     else
      u7 s false
    else
     u7 s false
def A4 (s : LB) (go3 : Int → Option Bool) (i2 : Int) : Option Bool :=
 if i2 < (s.length : Int) then
  bnd (nth s i2) fun x4 =>
  if (x4.toNat : Int) < 32 then
   some false
  else
   bnd (nth s i2) fun x5 =>
   if (x5.toNat : Int) > 126 then
    some false
   else
    bnd (nth s i2) fun x6 =>
    if (x6.toNat : Int) = 34 then
     some false
    else
     chk (I64 (i2 + 1)) <|
     go3 (i2 + 1)
 else
  some true
def Y7 (s : LB) (go : Int → Option Bool) (v : Int) : Option Bool :=
 match v with
 | i2 => A4 s go i2
def U5 (s : LB) : Option Bool :=
 if (s.length : Int) > 20 then
  some false
 else
  itr (Y7 s) LF 0
def Y6 (kind : Int) (number : Int) (text : LB) (items : Int) : Option Bool :=
 if kind = 0 then
  if number = 0 then
   some (decide (text = ([] : LB)))
  else
   some false
 else
  if kind = 1 then
   if number = 0 then
    if items = 0 then
     bnd (X4 text) fun x5 =>
     some x5
    else
     some false
   else
    some false
  else
   if kind = 2 then
    if number ≥ (-999999999) then
     if number ≤ 999999999 then
      if text = ([] : LB) then
       some (decide (items = 0))
      else
       some false
     else
      some false
    else
     some false
   else
    if kind = 3 then
     if number = 0 then
      if text = ([] : LB) then
       some (decide (items = 0))
      else
       some false
     else
      if number = 1 then
       if text = ([] : LB) then
        some (decide (items = 0))
       else
        some false
      else
       some false
    else
     if kind = 4 then
      if number = 0 then
       if items = 0 then
        bnd (U5 text) fun x5 =>
        some x5
       else
        some false
      else
       some false
     else
      some false
def G5 (t0 : PD → Int → Int → Option (Bool × Int)) (d : PD) (deep : Int) (go8 : (Int × Int) → Option (Bool × Int)) (x6 : Int) (nodes7 : Int) : Option (Bool × Int) :=
 if x6 < (d.items.length : Int) then
  bnd (nth d.items x6) fun x9 =>
  chk (I64 (deep + 1)) <|
  bnd (t0 x9 (deep + 1) nodes7) fun x10 =>
  if x10.1 = true then
   chk (I64 (x6 + 1)) <|
   go8 ((x6 + 1), x10.2)
  else
   some (false, x10.2)
 else
  some (true, nodes7)
def eO (t0 : PD → Int → Int → Option (Bool × Int)) (d : PD) (deep : Int) (go : (Int × Int) → Option (Bool × Int)) (v : Int × Int) : Option (Bool × Int) :=
 match v with
 | (x6, nodes7) => G5 t0 d deep go x6 nodes7
def Y4 (t0 : PD → Int → Int → Option (Bool × Int)) (d : PD) (deep : Int) (nodes : Int) : Option (Bool × Int) :=
 chk (I64 (nodes + 1)) <|
 if deep > 20 then
  some (false, (nodes + 1))
 else
  if (nodes + 1) > 600 then
   some (false, (nodes + 1))
  else
   bnd (Y6 d.kind d.number d.text (d.items.length : Int)) fun x5 =>
   if x5 = true then
    itr (eO t0 d deep) LF (0, (nodes + 1))
   else
    some (false, (nodes + 1))
def t0 : Nat → PD → Int → Int → Option (Bool × Int)
 | 0, _, _, _ => none
 | n + 1, d, deep, nodes => Y4 (t0 n) d deep nodes
def eK (d : PD) : Option Bool :=
 bnd (t0 RF d 1 0) fun x2 =>
 some x2.1
def eN (x_1 : PInstr) : Option Bool :=
 if x_1.op < 1 then
  some false
 else
  if x_1.op > 20 then
   some false
  else
   if x_1.op = 1 then
    if x_1.a = 0 then
     bnd (eK x_1.d) fun x2 =>
     some x2
    else
     some false
   else
    bnd (o0 RF x_1.d (PD.mk 0 0 ([] : LB) [])) fun x2 =>
    if x2 = true then
     if x_1.a < 0 then
      some false
     else
      if x_1.a > 4000 then
       some false
      else
       if x_1.a = 0 then
        some true
       else
        if x_1.op = 14 then
         some false
        else
         some (!decide (x_1.op = 17))
    else
     some false
def A3 : Option (List (LB)) :=
 some ([([43] : LB), ([45] : LB), ([42] : LB), ([61] : LB), ([60] : LB), ([99, 111, 110, 115] : LB), ([99, 97, 114] : LB), ([99, 100, 114] : LB), ([110, 117, 108, 108, 63] : LB), ([112, 97, 105, 114, 63] : LB), ([110, 117, 109, 98, 101, 114, 63] : LB), ([101, 113, 63] : LB), ([110, 111, 116] : LB), ([100, 105, 115, 112, 108, 97, 121] : LB)] : List (LB))
def I7 (m : PImage) (k : Int) (x_1 : PInstr) (x5 : Bool) : Option Bool :=
 if x5 = true then
  if x_1.a < k then
   bnd (nth m.codes x_1.a) fun x6 =>
   some (decide (x6.params = 0))
  else
   some false
 else
  if x_1.op = 19 then
   if x_1.a < k then
    bnd (nth m.codes x_1.a) fun x6 =>
    some (decide (x6.params = 1))
   else
    some false
  else
   if x_1.op = 12 then
    some (decide (x_1.a ≤ 8))
   else
    if x_1.op = 13 then
     some (decide (x_1.a ≤ 8))
    else
     some true
def Y5 (m : PImage) (c : PCode) (k : Int) (x_1 : PInstr) : Option Bool :=
 if x_1.op = 2 then
  bnd (A3) fun x5 =>
  some (decide (x_1.a < (x5.length : Int)))
 else
  if x_1.op = 3 then
   some (decide (x_1.a < c.slots))
  else
   if x_1.op = 5 then
    some (decide (x_1.a < c.slots))
   else
    if x_1.op = 7 then
     some (decide (x_1.a < c.slots))
    else
     if x_1.op = 9 then
      if x_1.a ≥ c.params then
       some (decide (x_1.a < c.slots))
      else
       some false
     else
      if x_1.op = 10 then
       some (decide (x_1.a < c.params))
      else
       if x_1.op = 4 then
        some (decide (x_1.a < c.captures))
       else
        if x_1.op = 6 then
         some (decide (x_1.a < c.captures))
        else
         if x_1.op = 8 then
          some (decide (x_1.a < c.captures))
         else
          if x_1.op = 11 then
           some (decide (x_1.a < k))
          else
           if x_1.op = 18 then
            I7 m k x_1 true
           else
            I7 m k x_1 (decide (x_1.op = 20))
def J8 (m : PImage) (k : Int) (x3 : PCode) (go5 : Int → Option Bool) (x4 : Int) : Option Bool :=
 if x4 < (x3.instrs.length : Int) then
  bnd (nth x3.instrs x4) fun x6 =>
  bnd (eN x6) fun x7 =>
  if x7 = true then
   bnd (Y5 m x3 k x6) fun x8 =>
   if x8 = true then
    chk (I64 (x4 + 1)) <|
    go5 (x4 + 1)
   else
    some false
  else
   some false
 else
  some true
def hC (m : PImage) (k : Int) (x3 : PCode) (go : Int → Option Bool) (v : Int) : Option Bool :=
 match v with
 | x4 => J8 m k x3 go x4
def jD (m : PImage) (k : Int) : Option Bool :=
 bnd (nth m.codes k) fun x3 =>
 if x3.params < 0 then
  some false
 else
  if x3.params > 8 then
   some false
  else
   if x3.slots < x3.params then
    some false
   else
    if x3.slots > 500 then
     some false
    else
     if x3.captures < 0 then
      some false
     else
      if x3.captures > 500 then
       some false
      else
       if (x3.instrs.length : Int) < 1 then
        some false
       else
        if (x3.instrs.length : Int) > 4000 then
         some false
        else
         itr (hC m k x3) LF 0
def jF (m : PImage) (x_1 : PInstr) : Option (Int × Int) :=
 if x_1.op = 1 then
  some (0, 1)
 else
  if x_1.op = 2 then
   some (0, 1)
  else
   if x_1.op = 3 then
    some (0, 1)
   else
    if x_1.op = 4 then
     some (0, 1)
    else
     if x_1.op = 5 then
      some (0, 1)
     else
      if x_1.op = 6 then
       some (0, 1)
      else
       if x_1.op = 7 then
        some (1, 1)
       else
        if x_1.op = 8 then
         some (1, 1)
        else
         if x_1.op = 11 then
          bnd (nth m.codes x_1.a) fun x3 =>
          some (x3.captures, 1)
         else
          if x_1.op = 18 then
           bnd (nth m.codes x_1.a) fun x3 =>
           some (x3.captures, 1)
          else
           if x_1.op = 19 then
            bnd (nth m.codes x_1.a) fun x3 =>
            some (x3.captures, 1)
           else
            if x_1.op = 20 then
             bnd (nth m.codes x_1.a) fun x3 =>
             some (x3.captures, 1)
            else
             if x_1.op = 12 then
              chk (I64 (x_1.a + 1)) <|
              some ((x_1.a + 1), 1)
             else
              if x_1.op = 13 then
               chk (I64 (x_1.a + 1)) <|
               some ((x_1.a + 1), 0)
              else
               if x_1.op = 14 then
                some (1, 0)
               else
                if x_1.op = 17 then
                 some (1, 0)
                else
                 if x_1.op = 16 then
                  some (1, 0)
                 else
                  some (0, 0)
def A9 (x8 : Int) (go10 : (Int × LI) → Option (LI × Bool)) (out11 : LI) : Option (LI × Bool) :=
 chk (I64 (x8 + 1)) <|
 go10 ((x8 + 1), out11)
def D3 (x13 : Int × Int) (x15 : Int) (x17 : Int) (out18 : LI) (go19 : (Int × LI) → Option (LI × Bool)) (x20 : Int) (x21 : Bool) : Option (LI × Bool) :=
 if x21 = true then
  some ([], false)
 else
  bnd (nth out18 x20) fun x22 =>
  chk (I64 (x17 + 1)) <|
  go19 ((x17 + 1), (out18.set x20.toNat ((x15 - x13.1) + x13.2)))
def E3 (x3 : PCode) (x8 : Int) (go10 : (Int × LI) → Option (LI × Bool)) (x13 : Int × Int) (x15 : Int) (next16 : LI) (go19 : (Int × LI) → Option (LI × Bool)) (x17 : Int) (out18 : LI) : Option (LI × Bool) :=
 if x17 < (next16.length : Int) then
  bnd (nth next16 x17) fun x20 =>
  if x20 ≤ x8 then
   D3 x13 x15 x17 out18 go19 x20 true
  else
   if x20 ≥ (x3.instrs.length : Int) then
    D3 x13 x15 x17 out18 go19 x20 true
   else
    bnd (nth out18 x20) fun x21 =>
    if x21 ≥ 0 then
     bnd (nth out18 x20) fun x22 =>
     D3 x13 x15 x17 out18 go19 x20 (!decide (x22 = ((x15 - x13.1) + x13.2)))
    else
     D3 x13 x15 x17 out18 go19 x20 false
 else
  A9 x8 go10 out18
def W9 (x3 : PCode) (x8 : Int) (go10 : (Int × LI) → Option (LI × Bool)) (x13 : Int × Int) (x15 : Int) (next16 : LI) (go : (Int × LI) → Option (LI × Bool)) (v : Int × LI) : Option (LI × Bool) :=
 match v with
 | (x17, out18) => E3 x3 x8 go10 x13 x15 next16 go x17 out18
def z5 (x3 : PCode) (x8 : Int) (out9 : LI) (go10 : (Int × LI) → Option (LI × Bool)) (x13 : Int × Int) (x15 : Int) (next16 : LI) : Option (LI × Bool) :=
 itr (W9 x3 x8 go10 x13 x15 next16) LF (0, out9)
def K7 (x3 : PCode) (x8 : Int) (out9 : LI) (go10 : (Int × LI) → Option (LI × Bool)) (x11 : PInstr) (x13 : Int × Int) (x15 : Int) (x16 : Bool) : Option (LI × Bool) :=
 if x16 = true then
  if ((x15 - x13.1) + x13.2) = 0 then
   z5 x3 x8 out9 go10 x13 x15 []
  else
   some ([], false)
 else
  if x11.op = 15 then
   z5 x3 x8 out9 go10 x13 x15 ([x11.a] : LI)
  else
   if x11.op = 16 then
    chk (I64 (x8 + 1)) <|
    z5 x3 x8 out9 go10 x13 x15 ([(x8 + 1), x11.a] : LI)
   else
    chk (I64 (x8 + 1)) <|
    z5 x3 x8 out9 go10 x13 x15 ([(x8 + 1)] : LI)
def D9 (m : PImage) (x3 : PCode) (go10 : (Int × LI) → Option (LI × Bool)) (x8 : Int) (out9 : LI) : Option (LI × Bool) :=
 if x8 < (x3.instrs.length : Int) then
  bnd (nth x3.instrs x8) fun x11 =>
  bnd (nth out9 x8) fun x12 =>
  if x12 < 0 then
   A9 x8 go10 out9
  else
   bnd (jF m x11) fun x13 =>
   bnd (nth out9 x8) fun x14 =>
   if x13.1 > x14 then
    some ([], false)
   else
    bnd (nth out9 x8) fun x15 =>
    chk (I64 (x15 - x13.1)) <|
    chk (I64 ((x15 - x13.1) + x13.2)) <|
    if ((x15 - x13.1) + x13.2) > 500 then
     some ([], false)
    else
     if x11.op = 14 then
      K7 x3 x8 out9 go10 x11 x13 x15 true
     else
      K7 x3 x8 out9 go10 x11 x13 x15 (decide (x11.op = 13))
 else
  some (out9, true)
def W8 (m : PImage) (x3 : PCode) (go : (Int × LI) → Option (LI × Bool)) (v : Int × LI) : Option (LI × Bool) :=
 match v with
 | (x8, out9) => D9 m x3 go x8 out9
def D8 (m : PImage) (x3 : PCode) (go6 : (Int × LI) → Option (LI × Bool)) (x4 : Int) (out5 : LI) : Option (LI × Bool) :=
 if x4 < ((List.replicate (x3.instrs.length : Int).toNat (0 : Int)).length : Int) then
  bnd (nth out5 x4) fun x7 =>
  chk (I64 (x4 + 1)) <|
  go6 ((x4 + 1), (out5.set x4.toNat (-1)))
 else
  bnd (nth out5 0) fun x7 =>
  itr (W8 m x3) LF (0, (out5.set (0 : Int).toNat 0))
def dI (m : PImage) (x3 : PCode) (go : (Int × LI) → Option (LI × Bool)) (v : Int × LI) : Option (LI × Bool) :=
 match v with
 | (x4, out5) => D8 m x3 go x4 out5
def cC (m : PImage) (code : Int) : Option (LI × Bool) :=
 bnd (nth m.codes code) fun x3 =>
 chk (0 ≤ (x3.instrs.length : Int) ∧ (8 : Nat) * (x3.instrs.length : Int) ≤ 281474976710656 ∧ (x3.instrs.length : Int) ≤ 281474976710656) <|
 itr (dI m x3) LF (0, (List.replicate (x3.instrs.length : Int).toNat (0 : Int)))
def O5 (x12 : Int) (go14 : (Int × LI) → Option Bool) (named15 : LI) : Option Bool :=
 chk (I64 (x12 + 1)) <|
 go14 ((x12 + 1), named15)
def G3 (total5 : Int) (x6 : Int) (go8 : (Int × Int × LI) → Option Bool) (x9 : PCode) (go14 : (Int × LI) → Option Bool) (x12 : Int) (named13 : LI) : Option Bool :=
 if x12 < (x9.instrs.length : Int) then
  bnd (nth x9.instrs x12) fun x15 =>
  bnd (N8 x15.op) fun x16 =>
  if x16 = true then
   bnd (nth named13 x15.a) fun x17 =>
   chk (I64 (x17 + 1)) <|
   bnd (nth named13 x15.a) fun x18 =>
   O5 x12 go14 (named13.set x15.a.toNat (x17 + 1))
  else
   O5 x12 go14 named13
 else
  chk (I64 (x6 + 1)) <|
  go8 ((total5 + (x9.instrs.length : Int)), (x6 + 1), named13)
def aN (total5 : Int) (x6 : Int) (go8 : (Int × Int × LI) → Option Bool) (x9 : PCode) (go : (Int × LI) → Option Bool) (v : Int × LI) : Option Bool :=
 match v with
 | (x12, named13) => G3 total5 x6 go8 x9 go x12 named13
def G4 (m : PImage) (total5 : Int) (named7 : LI) (go10 : Int → Option Bool) (x9 : Int) : Option Bool :=
 if x9 < ((named7.take ((m.codes.length : Int) - 1).toNat).length : Int) then
  bnd (nth (named7.take ((m.codes.length : Int) - 1).toNat) x9) fun x11 =>
  if x11 = 1 then
   chk (I64 (x9 + 1)) <|
   go10 (x9 + 1)
  else
   some false
 else
  some (decide (total5 ≤ 16000))
def aO (m : PImage) (total5 : Int) (named7 : LI) (go : Int → Option Bool) (v : Int) : Option Bool :=
 match v with
 | x9 => G4 m total5 named7 go x9
def P8 (m : PImage) (go8 : (Int × Int × LI) → Option Bool) (total5 : Int) (x6 : Int) (named7 : LI) : Option Bool :=
 if x6 < (m.codes.length : Int) then
  bnd (nth m.codes x6) fun x9 =>
  bnd (jD m x6) fun x10 =>
  if x10 = true then
   bnd (cC m x6) fun x11 =>
   if x11.2 = true then
    chk (I64 (total5 + (x9.instrs.length : Int))) <|
    itr (aN total5 x6 go8 x9) LF (0, named7)
   else
    some false
  else
   some false
 else
  chk (I64 ((m.codes.length : Int) - 1)) <|
  chk (0 ≤ ((m.codes.length : Int) - 1) ∧ ((m.codes.length : Int) - 1) ≤ named7.length) <|
  itr (aO m total5 named7) LF 0
def eM (m : PImage) (go : (Int × Int × LI) → Option Bool) (v : Int × Int × LI) : Option Bool :=
 match v with
 | (total5, x6, named7) => P8 m go total5 x6 named7
def bY (m : PImage) (captures : Int) : Option Bool :=
 if (m.codes.length : Int) < 1 then
  some false
 else
  if (m.codes.length : Int) > 1500 then
   some false
  else
   chk (I64 ((m.codes.length : Int) - 1)) <|
   if m.main = ((m.codes.length : Int) - 1) then
    chk (I64 ((m.codes.length : Int) - 1)) <|
    bnd (nth m.codes ((m.codes.length : Int) - 1)) fun x3 =>
    if x3.params = 0 then
     chk (I64 ((m.codes.length : Int) - 1)) <|
     bnd (nth m.codes ((m.codes.length : Int) - 1)) fun x4 =>
     if x4.captures = captures then
      chk (0 ≤ (m.codes.length : Int) ∧ (8 : Nat) * (m.codes.length : Int) ≤ 281474976710656 ∧ (m.codes.length : Int) ≤ 281474976710656) <|
      itr (eM m) LF (0, 0, (List.replicate (m.codes.length : Int).toNat (0 : Int)))
     else
      some false
    else
     some false
   else
    some false
def o3 (x2 : Int) (go4 : (Int × (MI)) → Option Bool) (x5 : LI) (go8 : (Int × (MI)) → Option Bool) (x6 : Int) (seen7 : MI) : Option Bool :=
 if x6 < (x5.length : Int) then
  bnd (nth x5 x6) fun x9 =>
  if x9 < 0 then
   some false
  else
   if x9 > 99999 then
    some false
   else
    if (mget seen7 x9) = 1 then
     some false
    else
     chk (I64 (x6 + 1)) <|
     go8 ((x6 + 1), (mput seen7 x9 1))
 else
  chk (I64 (x2 + 1)) <|
  go4 ((x2 + 1), seen7)
def B0 (x2 : Int) (go4 : (Int × (MI)) → Option Bool) (x5 : LI) (go : (Int × (MI)) → Option Bool) (v : Int × (MI)) : Option Bool :=
 match v with
 | (x6, seen7) => o3 x2 go4 x5 go x6 seen7
def m5 (lists : List (LI)) (go4 : (Int × (MI)) → Option Bool) (x2 : Int) (seen3 : MI) : Option Bool :=
 if x2 < (lists.length : Int) then
  bnd (nth lists x2) fun x5 =>
  itr (B0 x2 go4 x5) LF (0, seen3)
 else
  some true
def o7 (lists : List (LI)) (go : (Int × (MI)) → Option Bool) (v : Int × (MI)) : Option Bool :=
 match v with
 | (x2, seen3) => m5 lists go x2 seen3
def A7 (lists : List (LI)) : Option Bool :=
 itr (o7 lists) LF (0, ([] : MI))
def Q1 (s : LB) : Option Bool :=
 bnd (X4 s) fun x2 =>
 if x2 = true then
  some (decide ((s.length : Int) ≤ 8))
 else
  some false
def bZ (o : PObj) : Option Bool :=
 bnd (Q1 o.name) fun x2 =>
 if x2 = true then
  bnd (A7 ([o.defines, o.uses] : List (LI))) fun x3 =>
  if x3 = true then
   chk (I64 ((o.defines.length : Int) + (o.uses.length : Int))) <|
   bnd (bY o.image ((o.defines.length : Int) + (o.uses.length : Int))) fun x4 =>
   some x4
  else
   some false
 else
  some false
def cB (list : LI) : Option (LI) :=
 chk (list.length * 8 ≤ 140737488355328) <|
 some list
def Q0 (l7 : PD → Option PD) (s6 : List PD → Option (List PD)) (d : PD) : Option PD :=
 bnd (s6 d.items) fun x4 =>
 some (PD.mk d.kind d.number d.text x4)
def D7 (l7 : PD → Option PD) (list : List PD) (go6 : (Int × List PD) → Option (List PD)) (x4 : Int) (out5 : List PD) : Option (List PD) :=
 if x4 < (list.length : Int) then
  bnd (nth list x4) fun x7 =>
  bnd (l7 x7) fun x8 =>
  chk ((out5.length + ([x8] : List PD).length) * 56 ≤ 140737488355328) <|
  chk (I64 (x4 + 1)) <|
  go6 ((x4 + 1), (out5 ++ ([x8] : List PD)))
 else
  some out5
def dG (l7 : PD → Option PD) (list : List PD) (go : (Int × List PD) → Option (List PD)) (v : Int × List PD) : Option (List PD) :=
 match v with
 | (x4, out5) => D7 l7 list go x4 out5
def U4 (l7 : PD → Option PD) (s6 : List PD → Option (List PD)) (list : List PD) : Option (List PD) :=
 itr (dG l7 list) LF (0, [])
mutual
def l7 : Nat → PD → Option PD
 | 0, _ => none
 | n + 1, d => Q0 (l7 n) (s6 n) d
def s6 : Nat → List PD → Option (List PD)
 | 0, _ => none
 | n + 1, list => U4 (l7 n) (s6 n) list
end
def C9 (x22 : Int) (go24 : (Int × List PInstr) → Option (PImage × Bool)) (x25 : List PInstr) : Option (PImage × Bool) :=
 chk (I64 (x22 + 1)) <|
 go24 ((x22 + 1), x25)
def w8 (x6 : List PCode) (x18 : Int) (x19 : List PCode) (go20 : (Int × List PCode) → Option (PImage × Bool)) (x21 : PCode) (go24 : (Int × List PInstr) → Option (PImage × Bool)) (x22 : Int) (x23 : List PInstr) : Option (PImage × Bool) :=
 if x22 < (x21.instrs.length : Int) then
  bnd (nth x23 x22) fun x25 =>
  bnd (l7 RF x25.d) fun x26 =>
  bnd (nth x23 x22) fun x27 =>
  bnd (nth (x23.set x22.toNat (PInstr.mk x27.op x27.a x26)) x22) fun x28 =>
  bnd (N8 x28.op) fun x29 =>
  if x29 = true then
   bnd (nth (x23.set x22.toNat (PInstr.mk x27.op x27.a x26)) x22) fun x30 =>
   chk (I64 (x30.a + (x6.length : Int))) <|
   bnd (nth (x23.set x22.toNat (PInstr.mk x27.op x27.a x26)) x22) fun x31 =>
   C9 x22 go24 ((x23.set x22.toNat (PInstr.mk x27.op x27.a x26)).set x22.toNat (PInstr.mk x31.op (x30.a + (x6.length : Int)) x31.d))
  else
   C9 x22 go24 (x23.set x22.toNat (PInstr.mk x27.op x27.a x26))
 else
  chk (x23.length ≤ x22.toNat) (chk ((x19.length + ([(PCode.mk x21.params x21.slots x21.captures x23)] : List PCode).length) * 48 ≤ 140737488355328) <|
  chk (I64 (x18 + 1)) <|
  go20 ((x18 + 1), (x19 ++ ([(PCode.mk x21.params x21.slots x21.captures x23)] : List PCode))))
def M7 (x6 : List PCode) (x18 : Int) (x19 : List PCode) (go20 : (Int × List PCode) → Option (PImage × Bool)) (x21 : PCode) (go : (Int × List PInstr) → Option (PImage × Bool)) (v : Int × List PInstr) : Option (PImage × Bool) :=
 match v with
 | (x22, x23) => w8 x6 x18 x19 go20 x21 go x22 x23
def w7 (x2 : Int) (names3 : List ((LB) × Int)) (x6 : List PCode) (go7 : (Int × (List ((LB) × Int)) × (MI) × List PInstr × List PCode) → Option (PImage × Bool)) (x8 : PObj) (slots11 : MI) (x16 : List PInstr) (go20 : (Int × List PCode) → Option (PImage × Bool)) (x18 : Int) (x19 : List PCode) : Option (PImage × Bool) :=
 if x18 < (x8.image.codes.length : Int) then
  bnd (nth x8.image.codes x18) fun x21 =>
  chk (x21.instrs.length * 72 ≤ 140737488355328) <|
  itr (M7 x6 x18 x19 go20 x21) LF (0, x21.instrs)
 else
  chk (I64 ((x19.length : Int) - 1)) <|
  chk ((x16.length + ([(PInstr.mk 20 ((x19.length : Int) - 1) (PD.mk 0 0 ([] : LB) []))] : List PInstr).length) * 72 ≤ 140737488355328) <|
  chk (I64 (x2 + 1)) <|
  go7 ((x2 + 1), (mput names3 x8.name 1), slots11, (x16 ++ ([(PInstr.mk 20 ((x19.length : Int) - 1) (PD.mk 0 0 ([] : LB) []))] : List PInstr)), x19)
def M6 (x2 : Int) (names3 : List ((LB) × Int)) (x6 : List PCode) (go7 : (Int × (List ((LB) × Int)) × (MI) × List PInstr × List PCode) → Option (PImage × Bool)) (x8 : PObj) (slots11 : MI) (x16 : List PInstr) (go : (Int × List PCode) → Option (PImage × Bool)) (v : Int × List PCode) : Option (PImage × Bool) :=
 match v with
 | (x18, x19) => w7 x2 names3 x6 go7 x8 slots11 x16 go x18 x19
def w6 (x2 : Int) (names3 : List ((LB) × Int)) (x6 : List PCode) (go7 : (Int × (List ((LB) × Int)) × (MI) × List PInstr × List PCode) → Option (PImage × Bool)) (x8 : PObj) (slots11 : MI) (x14 : LI) (go17 : (Int × List PInstr) → Option (PImage × Bool)) (x15 : Int) (x16 : List PInstr) : Option (PImage × Bool) :=
 if x15 < ((x14 ++ x8.uses).length : Int) then
  bnd (nth (x14 ++ x8.uses) x15) fun x18 =>
  if (mhas slots11 x18) = true then
   chk ((x16.length + ([(PInstr.mk 3 (mget slots11 x18) (PD.mk 0 0 ([] : LB) []))] : List PInstr).length) * 72 ≤ 140737488355328) <|
   chk (I64 (x15 + 1)) <|
   go17 ((x15 + 1), (x16 ++ ([(PInstr.mk 3 (mget slots11 x18) (PD.mk 0 0 ([] : LB) []))] : List PInstr)))
  else
   some ((PImage.mk [] 0), false)
 else
  itr (M6 x2 names3 x6 go7 x8 slots11 x16) LF (0, x6)
def W3 (x2 : Int) (names3 : List ((LB) × Int)) (x6 : List PCode) (go7 : (Int × (List ((LB) × Int)) × (MI) × List PInstr × List PCode) → Option (PImage × Bool)) (x8 : PObj) (slots11 : MI) (x14 : LI) (go : (Int × List PInstr) → Option (PImage × Bool)) (v : Int × List PInstr) : Option (PImage × Bool) :=
 match v with
 | (x15, x16) => w6 x2 names3 x6 go7 x8 slots11 x14 go x15 x16
def A2 (x2 : Int) (names3 : List ((LB) × Int)) (x6 : List PCode) (go7 : (Int × (List ((LB) × Int)) × (MI) × List PInstr × List PCode) → Option (PImage × Bool)) (x8 : PObj) (slots11 : MI) (x13 : List PInstr) : Option (PImage × Bool) :=
 bnd (cB x8.defines) fun x14 =>
 chk ((x14.length + x8.uses.length) * 8 ≤ 140737488355328) <|
 itr (W3 x2 names3 x6 go7 x8 slots11 x14) LF (0, x13)
def w5 (x2 : Int) (names3 : List ((LB) × Int)) (x5 : List PInstr) (x6 : List PCode) (go7 : (Int × (List ((LB) × Int)) × (MI) × List PInstr × List PCode) → Option (PImage × Bool)) (x8 : PObj) (go12 : (Int × (MI)) → Option (PImage × Bool)) (x10 : Int) (slots11 : MI) : Option (PImage × Bool) :=
 if x10 < (x8.defines.length : Int) then
  bnd (nth x8.defines x10) fun x13 =>
  if (mhas slots11 x13) = true then
   some ((PImage.mk [] 0), false)
  else
   chk (I64 (x10 + 1)) <|
   go12 ((x10 + 1), (mput slots11 x13 (slots11.length : Int)))
 else
  if x2 > 0 then
   chk ((x5.length + ([(PInstr.mk 17 0 (PD.mk 0 0 ([] : LB) []))] : List PInstr).length) * 72 ≤ 140737488355328) <|
   A2 x2 names3 x6 go7 x8 slots11 (x5 ++ ([(PInstr.mk 17 0 (PD.mk 0 0 ([] : LB) []))] : List PInstr))
  else
   A2 x2 names3 x6 go7 x8 slots11 x5
def M5 (x2 : Int) (names3 : List ((LB) × Int)) (x5 : List PInstr) (x6 : List PCode) (go7 : (Int × (List ((LB) × Int)) × (MI) × List PInstr × List PCode) → Option (PImage × Bool)) (x8 : PObj) (go : (Int × (MI)) → Option (PImage × Bool)) (v : Int × (MI)) : Option (PImage × Bool) :=
 match v with
 | (x10, slots11) => w5 x2 names3 x5 x6 go7 x8 go x10 slots11
def w9 (slots4 : MI) (x5 : List PInstr) (x6 : List PCode) (go10 : (Int × List PInstr) → Option (PImage × Bool)) (x8 : Int) (boxes9 : List PInstr) : Option (PImage × Bool) :=
 if x8 < (slots4.length : Int) then
  chk ((boxes9.length + ([(PInstr.mk 9 x8 (PD.mk 0 0 ([] : LB) []))] : List PInstr).length) * 72 ≤ 140737488355328) <|
  chk (I64 (x8 + 1)) <|
  go10 ((x8 + 1), (boxes9 ++ ([(PInstr.mk 9 x8 (PD.mk 0 0 ([] : LB) []))] : List PInstr)))
 else
  chk ((boxes9.length + x5.length) * 72 ≤ 140737488355328) <|
  chk (((boxes9 ++ x5).length + ([(PInstr.mk 14 0 (PD.mk 0 0 ([] : LB) []))] : List PInstr).length) * 72 ≤ 140737488355328) <|
  chk ((x6.length + ([(PCode.mk 0 (slots4.length : Int) 0 ((boxes9 ++ x5) ++ ([(PInstr.mk 14 0 (PD.mk 0 0 ([] : LB) []))] : List PInstr)))] : List PCode).length) * 48 ≤ 140737488355328) <|
  chk (I64 (((x6 ++ ([(PCode.mk 0 (slots4.length : Int) 0 ((boxes9 ++ x5) ++ ([(PInstr.mk 14 0 (PD.mk 0 0 ([] : LB) []))] : List PInstr)))] : List PCode)).length : Int) - 1)) <|
  bnd (bY (PImage.mk (x6 ++ ([(PCode.mk 0 (slots4.length : Int) 0 ((boxes9 ++ x5) ++ ([(PInstr.mk 14 0 (PD.mk 0 0 ([] : LB) []))] : List PInstr)))] : List PCode)) (((x6 ++ ([(PCode.mk 0 (slots4.length : Int) 0 ((boxes9 ++ x5) ++ ([(PInstr.mk 14 0 (PD.mk 0 0 ([] : LB) []))] : List PInstr)))] : List PCode)).length : Int) - 1)) 0) fun x11 =>
  if x11 = true then
   some ((PImage.mk (x6 ++ ([(PCode.mk 0 (slots4.length : Int) 0 ((boxes9 ++ x5) ++ ([(PInstr.mk 14 0 (PD.mk 0 0 ([] : LB) []))] : List PInstr)))] : List PCode)) (((x6 ++ ([(PCode.mk 0 (slots4.length : Int) 0 ((boxes9 ++ x5) ++ ([(PInstr.mk 14 0 (PD.mk 0 0 ([] : LB) []))] : List PInstr)))] : List PCode)).length : Int) - 1)), true)
  else
   some ((PImage.mk [] 0), false)
def M8 (slots4 : MI) (x5 : List PInstr) (x6 : List PCode) (go : (Int × List PInstr) → Option (PImage × Bool)) (v : Int × List PInstr) : Option (PImage × Bool) :=
 match v with
 | (x8, boxes9) => w9 slots4 x5 x6 go x8 boxes9
def v9 (list : List PObj) (go7 : (Int × (List ((LB) × Int)) × (MI) × List PInstr × List PCode) → Option (PImage × Bool)) (x2 : Int) (names3 : List ((LB) × Int)) (slots4 : MI) (x5 : List PInstr) (x6 : List PCode) : Option (PImage × Bool) :=
 if x2 < (list.length : Int) then
  bnd (nth list x2) fun x8 =>
  bnd (bZ x8) fun x9 =>
  if x9 = true then
   if (mget names3 x8.name) = 1 then
    some ((PImage.mk [] 0), false)
   else
    itr (M5 x2 names3 x5 x6 go7 x8) LF (0, slots4)
  else
   some ((PImage.mk [] 0), false)
 else
  itr (M8 slots4 x5 x6) LF (0, [])
def W2 (list : List PObj) (go : (Int × (List ((LB) × Int)) × (MI) × List PInstr × List PCode) → Option (PImage × Bool)) (v : Int × (List ((LB) × Int)) × (MI) × List PInstr × List PCode) : Option (PImage × Bool) :=
 match v with
 | (x2, names3, slots4, x5, x6) => v9 list go x2 names3 slots4 x5 x6
def K6 (list : List PObj) : Option (PImage × Bool) :=
 if (list.length : Int) < 1 then
  some ((PImage.mk [] 0), false)
 else
  if (list.length : Int) > 12 then
   some ((PImage.mk [] 0), false)
  else
   itr (W2 list) LF (0, ([] : List ((LB) × Int)), ([] : MI), [], [])
end Go.Abs

namespace Go.Abs
set_option linter.unusedVariables false
def E4 (list : LI) (x_1 : Int) (go4 : Int → Option Bool) (x3 : Int) : Option Bool :=
 if x3 < (list.length : Int) then
  bnd (nth list x3) fun x5 =>
  if x5 = x_1 then
   some true
  else
   chk (I64 (x3 + 1)) <|
   go4 (x3 + 1)
 else
  some false
def dO (list : LI) (x_1 : Int) (go : Int → Option Bool) (v : Int) : Option Bool :=
 match v with
 | x3 => E4 list x_1 go x3
def X6 (list : LI) (x_1 : Int) : Option Bool :=
 itr (dO list x_1) LF 0
def V1 (x_1 : Int) (a : Int) (b : Int) : Option Bool :=
 if x_1 ≥ a then
  some (decide (x_1 ≤ b))
 else
  some false
def gD (list : LI) : Option (LI) :=
 chk ((([] : LI).length + list.length) * 8 ≤ 140737488355328) <|
 some (([] : LI) ++ list)
def S7 (y9 : PD → Int → Option (Bool × Int)) (d : PD) (i4 : Int) (left5 : Int) (go6 : (Int × Int) → Option (Bool × Int)) (x7 : Bool) : Option (Bool × Int) :=
 if x7 = true then
  bnd (nth d.items i4) fun x8 =>
  bnd (y9 x8 left5) fun x9 =>
  chk (I64 (i4 + 1)) <|
  go6 ((i4 + 1), x9.2)
 else
  some ((decide (left5 ≥ 0)), left5)
def O2 (y9 : PD → Int → Option (Bool × Int)) (d : PD) (go6 : (Int × Int) → Option (Bool × Int)) (i4 : Int) (left5 : Int) : Option (Bool × Int) :=
 if i4 < (d.items.length : Int) then
  S7 y9 d i4 left5 go6 (decide (left5 ≥ 0))
 else
  S7 y9 d i4 left5 go6 false
def lN (y9 : PD → Int → Option (Bool × Int)) (d : PD) (go : (Int × Int) → Option (Bool × Int)) (v : Int × Int) : Option (Bool × Int) :=
 match v with
 | (i4, left5) => O2 y9 d go i4 left5
def fJ (y9 : PD → Int → Option (Bool × Int)) (d : PD) (left : Int) : Option (Bool × Int) :=
 chk (I64 (left - 1)) <|
 itr (lN y9 d) LF (0, (left - 1))
def y9 : Nat → PD → Int → Option (Bool × Int)
 | 0, _, _ => none
 | n + 1, d, left => fJ (y9 n) d left
def G6 (t4 : PD → Option Int) (d : PD) (go5 : (Int × Int) → Option Int) (x3 : Int) (x4 : Int) : Option Int :=
 if x4 < (d.items.length : Int) then
  bnd (nth d.items x4) fun x6 =>
  bnd (t4 x6) fun x7 =>
  chk (I64 (x4 + 1)) <|
  go5 ((max x3 x7), (x4 + 1))
 else
  chk (I64 (x3 + 1)) <|
  some (x3 + 1)
def fB (t4 : PD → Option Int) (d : PD) (go : (Int × Int) → Option Int) (v : Int × Int) : Option Int :=
 match v with
 | (x3, x4) => G6 t4 d go x3 x4
def Y8 (t4 : PD → Option Int) (d : PD) : Option Int :=
 itr (fB t4 d) LF (0, 0)
def t4 : Nat → PD → Option Int
 | 0, _ => none
 | n + 1, d => Y8 (t4 n) d
def V0 (b : Int) : Option Bool :=
 if b ≥ 48 then
  some (decide (b ≤ 57))
 else
  some false
def P3 (b : Int) (go4 : Int → Option Bool) (i3 : Int) : Option Bool :=
 if i3 < (([33, 63, 42, 60, 62, 61, 47, 43, 45, 46, 95] : LB).length : Int) then
  bnd (nth ([33, 63, 42, 60, 62, 61, 47, 43, 45, 46, 95] : LB) i3) fun x5 =>
  if (x5.toNat : Int) = b then
   some true
  else
   chk (I64 (i3 + 1)) <|
   go4 (i3 + 1)
 else
  some false
def iL (b : Int) (go : Int → Option Bool) (v : Int) : Option Bool :=
 match v with
 | i3 => P3 b go i3
def K0 (b : Int) (x2 : Bool) : Option Bool :=
 if x2 = true then
  some true
 else
  itr (iL b) LF 0
def kB (b : Int) : Option Bool :=
 if b ≥ 97 then
  if b ≤ 122 then
   K0 b true
  else
   bnd (V0 b) fun x2 =>
   K0 b x2
 else
  bnd (V0 b) fun x2 =>
  K0 b x2
def E5 (s : LB) (go4 : Int → Option Bool) (i3 : Int) : Option Bool :=
 if i3 < (s.length : Int) then
  bnd (nth s i3) fun x5 =>
  bnd (kB (x5.toNat : Int)) fun x6 =>
  if x6 = true then
   chk (I64 (i3 + 1)) <|
   go4 (i3 + 1)
  else
   some false
 else
  some true
def dP (s : LB) (go : Int → Option Bool) (v : Int) : Option Bool :=
 match v with
 | i3 => E5 s go i3
def z6 (s : LB) (x2 : Bool) : Option Bool :=
 if x2 = true then
  some false
 else
  itr (dP s) LF 0
def X7 (s : LB) : Option Bool :=
 bnd (V1 (s.length : Int) 1 16) fun x2 =>
 if x2 = true then
  bnd (nth s 0) fun x3 =>
  bnd (V0 (x3.toNat : Int)) fun x4 =>
  if x4 = true then
   z6 s true
  else
   bnd (nth s 0) fun x5 =>
   if (x5.toNat : Int) = 45 then
    if (s.length : Int) > 1 then
     bnd (nth s 1) fun x6 =>
     bnd (V0 (x6.toNat : Int)) fun x7 =>
     z6 s x7
    else
     z6 s false
   else
    z6 s false
 else
  z6 s true
def E8 (s : LB) (go3 : Int → Option Bool) (i2 : Int) : Option Bool :=
 if i2 < (s.length : Int) then
  bnd (nth s i2) fun x4 =>
  if (x4.toNat : Int) < 32 then
   some false
  else
   bnd (nth s i2) fun x5 =>
   if (x5.toNat : Int) > 126 then
    some false
   else
    bnd (nth s i2) fun x6 =>
    if (x6.toNat : Int) = 34 then
     some false
    else
     chk (I64 (i2 + 1)) <|
     go3 (i2 + 1)
 else
  some (decide ((s.length : Int) ≤ 20))
def kD (s : LB) (go : Int → Option Bool) (v : Int) : Option Bool :=
 match v with
 | i2 => E8 s go i2
def cO (s : LB) : Option Bool :=
 itr (kD s) LF 0
def kC (kind : Int) (number : Int) (text : LB) (items : Int) : Option Bool :=
 if kind = 0 then
  if number = 0 then
   some (decide (text = ([] : LB)))
  else
   some false
 else
  if kind = 1 then
   if number = 0 then
    bnd (X7 text) fun x5 =>
    if x5 = true then
     some (decide (items = 0))
    else
     some false
   else
    some false
  else
   if kind = 2 then
    bnd (V1 number (-999999999) 999999999) fun x5 =>
    if x5 = true then
     if text = ([] : LB) then
      some (decide (items = 0))
     else
      some false
    else
     some false
   else
    if kind = 3 then
     bnd (V1 number 0 1) fun x5 =>
     if x5 = true then
      if text = ([] : LB) then
       some (decide (items = 0))
      else
       some false
     else
      some false
    else
     if kind = 4 then
      if number = 0 then
       bnd (cO text) fun x5 =>
       if x5 = true then
        some (decide (items = 0))
       else
        some false
      else
       some false
     else
      some false
def I1 (t6 : PD → Option Bool) (d : PD) (go4 : Int → Option Bool) (x3 : Int) : Option Bool :=
 if x3 < (d.items.length : Int) then
  bnd (nth d.items x3) fun x5 =>
  bnd (t6 x5) fun x6 =>
  if x6 = true then
   chk (I64 (x3 + 1)) <|
   go4 (x3 + 1)
  else
   some false
 else
  bnd (kC d.kind d.number d.text (d.items.length : Int)) fun x5 =>
  some x5
def fK (t6 : PD → Option Bool) (d : PD) (go : Int → Option Bool) (v : Int) : Option Bool :=
 match v with
 | x3 => I1 t6 d go x3
def Z2 (t6 : PD → Option Bool) (d : PD) : Option Bool :=
 itr (fK t6 d) LF 0
def t6 : Nat → PD → Option Bool
 | 0, _ => none
 | n + 1, d => Z2 (t6 n) d
def fC (d : PD) : Option Bool :=
 bnd (y9 RF d 600) fun x2 =>
 if x2.1 = true then
  bnd (t4 RF d) fun x3 =>
  if x3 ≤ 20 then
   bnd (t6 RF d) fun x4 =>
   some x4
  else
   some false
 else
  some false
def Y9 (o2 : PD → PD → Option Bool) (a : PD) (b : PD) (go5 : Int → Option Bool) (x4 : Int) : Option Bool :=
 if x4 < (a.items.length : Int) then
  bnd (nth a.items x4) fun x6 =>
  bnd (nth b.items x4) fun x7 =>
  bnd (o2 x6 x7) fun x8 =>
  if x8 = true then
   chk (I64 (x4 + 1)) <|
   go5 (x4 + 1)
  else
   some false
 else
  some true
def bE (o2 : PD → PD → Option Bool) (a : PD) (b : PD) (go : Int → Option Bool) (v : Int) : Option Bool :=
 match v with
 | x4 => Y9 o2 a b go x4
def Q7 (o2 : PD → PD → Option Bool) (a : PD) (b : PD) : Option Bool :=
 if a.kind = b.kind then
  if a.number = b.number then
   if a.text = b.text then
    if (a.items.length : Int) = (b.items.length : Int) then
     itr (bE o2 a b) LF 0
    else
     some false
   else
    some false
  else
   some false
 else
  some false
def o2 : Nat → PD → PD → Option Bool
 | 0, _, _ => none
 | n + 1, a, b => Q7 (o2 n) a b
def gC (op : Int) : Option Bool :=
 if op = 14 then
  some true
 else
  some (decide (op = 17))
def cL (x_1 : PInstr) : Option Bool :=
 bnd (V1 x_1.op 1 20) fun x2 =>
 if x2 = true then
  if x_1.op = 1 then
   if x_1.a = 0 then
    bnd (fC x_1.d) fun x3 =>
    some x3
   else
    some false
  else
   bnd (o2 RF x_1.d (PD.mk 0 0 ([] : LB) [])) fun x3 =>
   if x3 = true then
    bnd (V1 x_1.a 0 4000) fun x4 =>
    if x4 = true then
     if x_1.a = 0 then
      some true
     else
      bnd (gC x_1.op) fun x5 =>
      some (!x5)
    else
     some false
   else
    some false
 else
  some false
def N6 : Option (List (LB)) :=
 some ([([43] : LB), ([45] : LB), ([42] : LB), ([61] : LB), ([60] : LB), ([99, 111, 110, 115] : LB), ([99, 97, 114] : LB), ([99, 100, 114] : LB), ([110, 117, 108, 108, 63] : LB), ([112, 97, 105, 114, 63] : LB), ([110, 117, 109, 98, 101, 114, 63] : LB), ([101, 113, 63] : LB), ([110, 111, 116] : LB), ([100, 105, 115, 112, 108, 97, 121] : LB)] : List (LB))
def O7 (m : PImage) (x_1 : Int) (x_2 : PInstr) (x5 : Bool) : Option Bool :=
 if x5 = true then
  if x_2.a < x_1 then
   bnd (nth m.codes x_2.a) fun x6 =>
   some (decide (x6.params = 0))
  else
   some false
 else
  if x_2.op = 19 then
   if x_2.a < x_1 then
    bnd (nth m.codes x_2.a) fun x6 =>
    some (decide (x6.params = 1))
   else
    some false
  else
   if x_2.op = 12 then
    some (decide (x_2.a ≤ 8))
   else
    if x_2.op = 13 then
     some (decide (x_2.a ≤ 8))
    else
     some true
def fF (m : PImage) (x_1 : Int) (x_2 : PInstr) : Option Bool :=
 bnd (nth m.codes x_1) fun x4 =>
 if x_2.op = 2 then
  bnd (N6) fun x5 =>
  some (decide (x_2.a < (x5.length : Int)))
 else
  if x_2.op = 3 then
   some (decide (x_2.a < x4.slots))
  else
   if x_2.op = 5 then
    some (decide (x_2.a < x4.slots))
   else
    if x_2.op = 7 then
     some (decide (x_2.a < x4.slots))
    else
     if x_2.op = 9 then
      chk (I64 (x4.slots - 1)) <|
      bnd (V1 x_2.a x4.params (x4.slots - 1)) fun x5 =>
      some x5
     else
      if x_2.op = 10 then
       some (decide (x_2.a < x4.params))
      else
       if x_2.op = 4 then
        some (decide (x_2.a < x4.captures))
       else
        if x_2.op = 6 then
         some (decide (x_2.a < x4.captures))
        else
         if x_2.op = 8 then
          some (decide (x_2.a < x4.captures))
         else
          if x_2.op = 11 then
           if x_2.a < x_1 then
            bnd (nth m.codes x_2.a) fun x5 =>
            some (decide (x5.params ≤ 8))
           else
            some false
          else
           if x_2.op = 18 then
            O7 m x_1 x_2 true
           else
            O7 m x_1 x_2 (decide (x_2.op = 20))
def G7 (m : PImage) (x_1 : Int) (x3 : PCode) (go9 : Int → Option Bool) (x8 : Int) : Option Bool :=
 if x8 < (x3.instrs.length : Int) then
  bnd (nth x3.instrs x8) fun x10 =>
  bnd (cL x10) fun x11 =>
  if x11 = true then
   bnd (fF m x_1 x10) fun x12 =>
   if x12 = true then
    chk (I64 (x8 + 1)) <|
    go9 (x8 + 1)
   else
    some false
  else
   some false
 else
  some true
def mE (m : PImage) (x_1 : Int) (x3 : PCode) (go : Int → Option Bool) (v : Int) : Option Bool :=
 match v with
 | x8 => G7 m x_1 x3 go x8
def fE (m : PImage) (x_1 : Int) : Option Bool :=
 bnd (nth m.codes x_1) fun x3 =>
 bnd (V1 x3.params 0 8) fun x4 =>
 if x4 = true then
  bnd (V1 x3.slots x3.params 500) fun x5 =>
  if x5 = true then
   bnd (V1 x3.captures 0 500) fun x6 =>
   if x6 = true then
    bnd (V1 (x3.instrs.length : Int) 1 4000) fun x7 =>
    if x7 = true then
     itr (mE m x_1 x3) LF 0
    else
     some false
   else
    some false
  else
   some false
 else
  some false
def Z1 (m : PImage) (x_1 : PInstr) : Option (Int × Int) :=
 if x_1.op = 1 then
  some (0, 1)
 else
  if x_1.op = 2 then
   some (0, 1)
  else
   if x_1.op = 3 then
    some (0, 1)
   else
    if x_1.op = 4 then
     some (0, 1)
    else
     if x_1.op = 5 then
      some (0, 1)
     else
      if x_1.op = 6 then
       some (0, 1)
      else
       if x_1.op = 7 then
        some (1, 1)
       else
        if x_1.op = 8 then
         some (1, 1)
        else
         if x_1.op = 11 then
          bnd (nth m.codes x_1.a) fun x3 =>
          some (x3.captures, 1)
         else
          if x_1.op = 18 then
           bnd (nth m.codes x_1.a) fun x3 =>
           some (x3.captures, 1)
          else
           if x_1.op = 19 then
            bnd (nth m.codes x_1.a) fun x3 =>
            some (x3.captures, 1)
           else
            if x_1.op = 20 then
             bnd (nth m.codes x_1.a) fun x3 =>
             some (x3.captures, 1)
            else
             if x_1.op = 12 then
              chk (I64 (x_1.a + 1)) <|
              some ((x_1.a + 1), 1)
             else
              if x_1.op = 13 then
               chk (I64 (x_1.a + 1)) <|
               some ((x_1.a + 1), 0)
              else
               if x_1.op = 14 then
                some (1, 0)
               else
                if x_1.op = 17 then
                 some (1, 0)
                else
                 if x_1.op = 16 then
                  some (1, 0)
                 else
                  some (0, 0)
def z7 (x8 : Int) (go10 : (Int × LI) → Option (LI × Bool)) (depths11 : LI) : Option (LI × Bool) :=
 chk (I64 (x8 + 1)) <|
 go10 ((x8 + 1), depths11)
def B4 (x13 : Int × Int) (x14 : Int) (x17 : Int) (depths18 : LI) (go19 : (Int × LI) → Option (LI × Bool)) (x20 : Int) (x21 : Bool) : Option (LI × Bool) :=
 if x21 = true then
  some ([], false)
 else
  chk (I64 ((x14 - x13.1) + x13.2)) <|
  bnd (nth depths18 x20) fun x22 =>
  chk (I64 (x17 + 1)) <|
  go19 ((x17 + 1), (depths18.set x20.toNat ((x14 - x13.1) + x13.2)))
def B9 (x3 : PCode) (x8 : Int) (go10 : (Int × LI) → Option (LI × Bool)) (x13 : Int × Int) (x14 : Int) (x16 : LI) (go19 : (Int × LI) → Option (LI × Bool)) (x17 : Int) (depths18 : LI) : Option (LI × Bool) :=
 if x17 < (x16.length : Int) then
  bnd (nth x16 x17) fun x20 =>
  if x20 ≤ x8 then
   B4 x13 x14 x17 depths18 go19 x20 true
  else
   if x20 ≥ (x3.instrs.length : Int) then
    B4 x13 x14 x17 depths18 go19 x20 true
   else
    bnd (nth depths18 x20) fun x21 =>
    if x21 ≥ 0 then
     bnd (nth depths18 x20) fun x22 =>
     chk (I64 ((x14 - x13.1) + x13.2)) <|
     B4 x13 x14 x17 depths18 go19 x20 (!decide (x22 = ((x14 - x13.1) + x13.2)))
    else
     B4 x13 x14 x17 depths18 go19 x20 false
 else
  z7 x8 go10 depths18
def T8 (x3 : PCode) (x8 : Int) (go10 : (Int × LI) → Option (LI × Bool)) (x13 : Int × Int) (x14 : Int) (x16 : LI) (go : (Int × LI) → Option (LI × Bool)) (v : Int × LI) : Option (LI × Bool) :=
 match v with
 | (x17, depths18) => B9 x3 x8 go10 x13 x14 x16 go x17 depths18
def u4 (x3 : PCode) (x8 : Int) (depths9 : LI) (go10 : (Int × LI) → Option (LI × Bool)) (x13 : Int × Int) (x14 : Int) (x16 : LI) : Option (LI × Bool) :=
 itr (T8 x3 x8 go10 x13 x14 x16) LF (0, depths9)
def I9 (x3 : PCode) (x8 : Int) (depths9 : LI) (go10 : (Int × LI) → Option (LI × Bool)) (x11 : PInstr) (x13 : Int × Int) (x14 : Int) (x16 : Bool) : Option (LI × Bool) :=
 if x16 = true then
  u4 x3 x8 depths9 go10 x13 x14 []
 else
  if x11.op = 15 then
   u4 x3 x8 depths9 go10 x13 x14 ([x11.a] : LI)
  else
   if x11.op = 16 then
    chk ((([(x8 + 1)] : LI).length + ([x11.a] : LI).length) * 8 ≤ 140737488355328) <|
    u4 x3 x8 depths9 go10 x13 x14 (([(x8 + 1)] : LI) ++ ([x11.a] : LI))
   else
    u4 x3 x8 depths9 go10 x13 x14 ([(x8 + 1)] : LI)
def q8 (x3 : PCode) (x8 : Int) (depths9 : LI) (go10 : (Int × LI) → Option (LI × Bool)) (x11 : PInstr) (x13 : Int × Int) (x14 : Int) (x15 : Bool) : Option (LI × Bool) :=
 if x15 = true then
  some ([], false)
 else
  chk (I64 (x8 + 1)) <|
  if x11.op = 14 then
   I9 x3 x8 depths9 go10 x11 x13 x14 true
  else
   I9 x3 x8 depths9 go10 x11 x13 x14 (decide (x11.op = 13))
def B8 (m : PImage) (x3 : PCode) (go10 : (Int × LI) → Option (LI × Bool)) (x8 : Int) (depths9 : LI) : Option (LI × Bool) :=
 if x8 < (x3.instrs.length : Int) then
  bnd (nth x3.instrs x8) fun x11 =>
  bnd (nth depths9 x8) fun x12 =>
  if x12 < 0 then
   z7 x8 go10 depths9
  else
   bnd (Z1 m x11) fun x13 =>
   bnd (nth depths9 x8) fun x14 =>
   chk (I64 (x14 - x13.1)) <|
   if (x14 - x13.1) < 0 then
    q8 x3 x8 depths9 go10 x11 x13 x14 true
   else
    chk (I64 ((x14 - x13.1) + x13.2)) <|
    if ((x14 - x13.1) + x13.2) > 500 then
     q8 x3 x8 depths9 go10 x11 x13 x14 true
    else
     if x11.op = 14 then
      if (x14 - x13.1) = 0 then
       if x11.op = 13 then
        q8 x3 x8 depths9 go10 x11 x13 x14 (!decide ((x14 - x13.1) = 0))
       else
        q8 x3 x8 depths9 go10 x11 x13 x14 false
      else
       q8 x3 x8 depths9 go10 x11 x13 x14 true
     else
      if x11.op = 13 then
       q8 x3 x8 depths9 go10 x11 x13 x14 (!decide ((x14 - x13.1) = 0))
      else
       q8 x3 x8 depths9 go10 x11 x13 x14 false
 else
  some (depths9, true)
def T7 (m : PImage) (x3 : PCode) (go : (Int × LI) → Option (LI × Bool)) (v : Int × LI) : Option (LI × Bool) :=
 match v with
 | (x8, depths9) => B8 m x3 go x8 depths9
def B7 (m : PImage) (x3 : PCode) (go6 : (Int × LI) → Option (LI × Bool)) (x4 : Int) (depths5 : LI) : Option (LI × Bool) :=
 if x4 < ((List.replicate (x3.instrs.length : Int).toNat (0 : Int)).length : Int) then
  bnd (nth depths5 x4) fun x7 =>
  chk (I64 (x4 + 1)) <|
  go6 ((x4 + 1), (depths5.set x4.toNat (-1)))
 else
  if (x3.instrs.length : Int) = 0 then
   some ([], false)
  else
   bnd (nth depths5 0) fun x7 =>
   itr (T7 m x3) LF (0, (depths5.set (0 : Int).toNat 0))
def bF (m : PImage) (x3 : PCode) (go : (Int × LI) → Option (LI × Bool)) (v : Int × LI) : Option (LI × Bool) :=
 match v with
 | (x4, depths5) => B7 m x3 go x4 depths5
def Z0 (m : PImage) (x_1 : Int) : Option (LI × Bool) :=
 bnd (nth m.codes x_1) fun x3 =>
 chk (0 ≤ (x3.instrs.length : Int) ∧ (8 : Nat) * (x3.instrs.length : Int) ≤ 281474976710656 ∧ (x3.instrs.length : Int) ≤ 281474976710656) <|
 itr (bF m x3) LF (0, (List.replicate (x3.instrs.length : Int).toNat (0 : Int)))
def O1 (op : Int) : Option Bool :=
 if op = 11 then
  some true
 else
  if op = 18 then
   some true
  else
   if op = 19 then
    some true
   else
    some (decide (op = 20))
def O8 (x6 : Int) (go8 : (Int × LI) → Option Bool) (times9 : LI) : Option Bool :=
 chk (I64 (x6 + 1)) <|
 go8 ((x6 + 1), times9)
def G9 (x2 : Int) (go4 : (Int × LI) → Option Bool) (x5 : PCode) (go8 : (Int × LI) → Option Bool) (x6 : Int) (times7 : LI) : Option Bool :=
 if x6 < (x5.instrs.length : Int) then
  bnd (nth x5.instrs x6) fun x9 =>
  bnd (O1 x9.op) fun x10 =>
  if x10 = true then
   bnd (nth times7 x9.a) fun x11 =>
   chk (I64 (x11 + 1)) <|
   bnd (nth times7 x9.a) fun x12 =>
   O8 x6 go8 (times7.set x9.a.toNat (x11 + 1))
  else
   O8 x6 go8 times7
 else
  chk (I64 (x2 + 1)) <|
  go4 ((x2 + 1), times7)
def aR (x2 : Int) (go4 : (Int × LI) → Option Bool) (x5 : PCode) (go : (Int × LI) → Option Bool) (v : Int × LI) : Option Bool :=
 match v with
 | (x6, times7) => G9 x2 go4 x5 go x6 times7
def O9 (x5 : Int) (go6 : Int → Option Bool) (x8 : Bool) : Option Bool :=
 if x8 = true then
  some false
 else
  chk (I64 (x5 + 1)) <|
  go6 (x5 + 1)
def I0 (m : PImage) (times3 : LI) (go6 : Int → Option Bool) (x5 : Int) : Option Bool :=
 if x5 < (times3.length : Int) then
  bnd (nth times3 x5) fun x7 =>
  if x7 = 1 then
   O9 x5 go6 false
  else
   O9 x5 go6 (!decide (x5 = m.main))
 else
  some true
def aS (m : PImage) (times3 : LI) (go : Int → Option Bool) (v : Int) : Option Bool :=
 match v with
 | x5 => I0 m times3 go x5
def G8 (m : PImage) (go4 : (Int × LI) → Option Bool) (x2 : Int) (times3 : LI) : Option Bool :=
 if x2 < (m.codes.length : Int) then
  bnd (nth m.codes x2) fun x5 =>
  itr (aR x2 go4 x5) LF (0, times3)
 else
  itr (aS m times3) LF 0
def fI (m : PImage) (go : (Int × LI) → Option Bool) (v : Int × LI) : Option Bool :=
 match v with
 | (x2, times3) => G8 m go x2 times3
def fG (m : PImage) : Option Bool :=
 chk (0 ≤ (m.codes.length : Int) ∧ (8 : Nat) * (m.codes.length : Int) ≤ 281474976710656 ∧ (m.codes.length : Int) ≤ 281474976710656) <|
 itr (fI m) LF (0, (List.replicate (m.codes.length : Int).toNat (0 : Int)))
def Q8 (m : PImage) (go8 : (Int × Int) → Option Bool) (x6 : Int) (x7 : Int) : Option Bool :=
 if x7 < (m.codes.length : Int) then
  bnd (fE m x7) fun x9 =>
  if x9 = true then
   bnd (Z0 m x7) fun x10 =>
   if x10.2 = true then
    bnd (nth m.codes x7) fun x11 =>
    chk (I64 (x6 + (x11.instrs.length : Int))) <|
    chk (I64 (x7 + 1)) <|
    go8 ((x6 + (x11.instrs.length : Int)), (x7 + 1))
   else
    some false
  else
   some false
 else
  if x6 ≤ 16000 then
   bnd (fG m) fun x9 =>
   some x9
  else
   some false
def fD (m : PImage) (go : (Int × Int) → Option Bool) (v : Int × Int) : Option Bool :=
 match v with
 | (x6, x7) => Q8 m go x6 x7
def cJ (m : PImage) (captures : Int) : Option Bool :=
 bnd (V1 (m.codes.length : Int) 1 1500) fun x3 =>
 if x3 = true then
  chk (I64 ((m.codes.length : Int) - 1)) <|
  if m.main = ((m.codes.length : Int) - 1) then
   bnd (nth m.codes m.main) fun x4 =>
   if x4.params = 0 then
    bnd (nth m.codes m.main) fun x5 =>
    if x5.captures = captures then
     itr (fD m) LF (0, 0)
    else
     some false
   else
    some false
  else
   some false
 else
  some false
def kF (s : LB) : Option Bool :=
 if (s.length : Int) ≤ 8 then
  bnd (X7 s) fun x2 =>
  some x2
 else
  some false
def E9 (list : LI) (go3 : Int → Option Bool) (x2 : Int) : Option Bool :=
 if x2 < (list.length : Int) then
  bnd (nth list x2) fun x4 =>
  bnd (V1 x4 0 99999) fun x5 =>
  if x5 = true then
   chk (0 ≤ x2 ∧ x2 ≤ list.length) <|
   bnd (X6 (list.take x2.toNat) x4) fun x6 =>
   if x6 = true then
    some false
   else
    chk (I64 (x2 + 1)) <|
    go3 (x2 + 1)
  else
   some false
 else
  some true
def dT (list : LI) (go : Int → Option Bool) (v : Int) : Option Bool :=
 match v with
 | x2 => E9 list go x2
def cP (list : LI) : Option Bool :=
 itr (dT list) LF 0
def cK (o : PObj) : Option Bool :=
 bnd (gD o.defines) fun x2 =>
 chk ((x2.length + o.uses.length) * 8 ≤ 140737488355328) <|
 bnd (kF o.name) fun x3 =>
 if x3 = true then
  bnd (cP (x2 ++ o.uses)) fun x4 =>
  if x4 = true then
   bnd (cJ o.image ((x2 ++ o.uses).length : Int)) fun x5 =>
   some x5
  else
   some false
 else
  some false
def O3 (list : List (LB)) (s : LB) (go4 : Int → Option Bool) (x3 : Int) : Option Bool :=
 if x3 < (list.length : Int) then
  bnd (nth list x3) fun x5 =>
  if x5 = s then
   some true
  else
   chk (I64 (x3 + 1)) <|
   go4 (x3 + 1)
 else
  some false
def lO (list : List (LB)) (s : LB) (go : Int → Option Bool) (v : Int) : Option Bool :=
 match v with
 | x3 => O3 list s go x3
def pX (list : List (LB)) (s : LB) : Option Bool :=
 itr (lO list s) LF 0
def V3 (list : LI) (x_1 : Int) (go4 : Int → Option Int) (i3 : Int) : Option Int :=
 if i3 ≥ 0 then
  bnd (nth list i3) fun x5 =>
  if x5 = x_1 then
   some i3
  else
   chk (I64 (i3 - 1)) <|
   go4 (i3 - 1)
 else
  some (-1)
def iN (list : LI) (x_1 : Int) (go : Int → Option Int) (v : Int) : Option Int :=
 match v with
 | i3 => V3 list x_1 go i3
def kE (list : LI) (x_1 : Int) : Option Int :=
 chk (I64 ((list.length : Int) - 1)) <|
 itr (iN list x_1) LF ((list.length : Int) - 1)
def J9 (v4 : PD → Option PD) (d : PD) (go5 : (Int × List PD) → Option PD) (x3 : Int) (x4 : List PD) : Option PD :=
 if x3 < (d.items.length : Int) then
  bnd (nth d.items x3) fun x6 =>
  bnd (v4 x6) fun x7 =>
  chk ((x4.length + ([x7] : List PD).length) * 56 ≤ 140737488355328) <|
  chk (I64 (x3 + 1)) <|
  go5 ((x3 + 1), (x4 ++ ([x7] : List PD)))
 else
  some (PD.mk d.kind d.number d.text x4)
def iK (v4 : PD → Option PD) (d : PD) (go : (Int × List PD) → Option PD) (v : Int × List PD) : Option PD :=
 match v with
 | (x3, x4) => J9 v4 d go x3 x4
def cN (v4 : PD → Option PD) (d : PD) : Option PD :=
 itr (iK v4 d) LF (0, [])
def v4 : Nat → PD → Option PD
 | 0, _ => none
 | n + 1, d => cN (v4 n) d
def K9 (x7 : Int) (x8 : List PInstr) (go9 : (Int × List PInstr) → Option (List PCode)) (y13 : PInstr) : Option (List PCode) :=
 chk ((x8.length + ([y13] : List PInstr).length) * 72 ≤ 140737488355328) <|
 chk (I64 (x7 + 1)) <|
 go9 ((x7 + 1), (x8 ++ ([y13] : List PInstr)))
def E7 (x_1 : Int) (x3 : Int) (out4 : List PCode) (go5 : (Int × List PCode) → Option (List PCode)) (x6 : PCode) (go9 : (Int × List PInstr) → Option (List PCode)) (x7 : Int) (x8 : List PInstr) : Option (List PCode) :=
 if x7 < (x6.instrs.length : Int) then
  bnd (nth x6.instrs x7) fun x10 =>
  bnd (v4 RF x10.d) fun x11 =>
  bnd (O1 x10.op) fun x12 =>
  if x12 = true then
   chk (I64 (x10.a + x_1)) <|
   K9 x7 x8 go9 (PInstr.mk x10.op (x10.a + x_1) x11)
  else
   K9 x7 x8 go9 (PInstr.mk x10.op x10.a x11)
 else
  chk ((out4.length + ([(PCode.mk x6.params x6.slots x6.captures x8)] : List PCode).length) * 48 ≤ 140737488355328) <|
  chk (I64 (x3 + 1)) <|
  go5 ((x3 + 1), (out4 ++ ([(PCode.mk x6.params x6.slots x6.captures x8)] : List PCode)))
def dR (x_1 : Int) (x3 : Int) (out4 : List PCode) (go5 : (Int × List PCode) → Option (List PCode)) (x6 : PCode) (go : (Int × List PInstr) → Option (List PCode)) (v : Int × List PInstr) : Option (List PCode) :=
 match v with
 | (x7, x8) => E7 x_1 x3 out4 go5 x6 go x7 x8
def E6 (m : PImage) (x_1 : Int) (go5 : (Int × List PCode) → Option (List PCode)) (x3 : Int) (out4 : List PCode) : Option (List PCode) :=
 if x3 < (m.codes.length : Int) then
  bnd (nth m.codes x3) fun x6 =>
  itr (dR x_1 x3 out4 go5 x6) LF (0, [])
 else
  some out4
def dQ (m : PImage) (x_1 : Int) (go : (Int × List PCode) → Option (List PCode)) (v : Int × List PCode) : Option (List PCode) :=
 match v with
 | (x3, out4) => E6 m x_1 go x3 out4
def cM (m : PImage) (x_1 : Int) : Option (List PCode) :=
 itr (dQ m x_1) LF (0, ([] : List PCode))
def y7 (x3 : Int) (names5 : List (LB)) (go7 : (Int × LI × List (LB) × List PInstr) → Option (PImage × Bool)) (x8 : PObj) (go14 : (Int × LI × List PInstr) → Option (PImage × Bool)) (x11 : Int) (globals12 : LI) (x13 : List PInstr) : Option (PImage × Bool) :=
 if x11 < (x8.defines.length : Int) then
  bnd (nth x8.defines x11) fun x15 =>
  bnd (X6 globals12 x15) fun x16 =>
  if x16 = true then
   some ((PImage.mk [] 0), false)
  else
   chk ((x13.length + ([(PInstr.mk 9 (globals12.length : Int) (PD.mk 0 0 ([] : LB) []))] : List PInstr).length) * 72 ≤ 140737488355328) <|
   chk ((globals12.length + ([x15] : LI).length) * 8 ≤ 140737488355328) <|
   chk (I64 (x11 + 1)) <|
   go14 ((x11 + 1), (globals12 ++ ([x15] : LI)), (x13 ++ ([(PInstr.mk 9 (globals12.length : Int) (PD.mk 0 0 ([] : LB) []))] : List PInstr)))
 else
  chk ((names5.length + ([x8.name] : List (LB)).length) * 16 ≤ 140737488355328) <|
  chk (I64 (x3 + 1)) <|
  go7 ((x3 + 1), globals12, (names5 ++ ([x8.name] : List (LB))), x13)
def N3 (x3 : Int) (names5 : List (LB)) (go7 : (Int × LI × List (LB) × List PInstr) → Option (PImage × Bool)) (x8 : PObj) (go : (Int × LI × List PInstr) → Option (PImage × Bool)) (v : Int × LI × List PInstr) : Option (PImage × Bool) :=
 match v with
 | (x11, globals12, x13) => y7 x3 names5 go7 x8 go x11 globals12 x13
def D0 (globals8 : LI) (x10 : Int) (go13 : (LI × Int × Int × List PInstr × List PCode) → Option (PImage × Bool)) (known14 : Int) (x15 : List PInstr) (x16 : List PCode) : Option (PImage × Bool) :=
 chk (I64 (x10 + 1)) <|
 go13 (globals8, known14, (x10 + 1), x15, x16)
def y8 (list : List PObj) (globals8 : LI) (known9 : Int) (x10 : Int) (x12 : List PCode) (go13 : (LI × Int × Int × List PInstr × List PCode) → Option (PImage × Bool)) (x14 : PObj) (x15 : LI) (go18 : (Int × List PInstr) → Option (PImage × Bool)) (x16 : Int) (x17 : List PInstr) : Option (PImage × Bool) :=
 if x16 < ((x15 ++ x14.uses).length : Int) then
  bnd (nth (x15 ++ x14.uses) x16) fun x19 =>
  chk (0 ≤ (known9 + (x14.defines.length : Int)) ∧ (known9 + (x14.defines.length : Int)) ≤ globals8.length) <|
  bnd (kE (globals8.take (known9 + (x14.defines.length : Int)).toNat) x19) fun x20 =>
  if x20 < 0 then
   some ((PImage.mk [] 0), false)
  else
   chk ((x17.length + ([(PInstr.mk 3 x20 (PD.mk 0 0 ([] : LB) []))] : List PInstr).length) * 72 ≤ 140737488355328) <|
   chk (I64 (x16 + 1)) <|
   go18 ((x16 + 1), (x17 ++ ([(PInstr.mk 3 x20 (PD.mk 0 0 ([] : LB) []))] : List PInstr)))
 else
  bnd (cM x14.image (x12.length : Int)) fun x19 =>
  chk ((x12.length + x19.length) * 48 ≤ 140737488355328) <|
  chk (I64 (((x12 ++ x19).length : Int) - 1)) <|
  chk ((x17.length + ([(PInstr.mk 20 (((x12 ++ x19).length : Int) - 1) (PD.mk 0 0 ([] : LB) []))] : List PInstr).length) * 72 ≤ 140737488355328) <|
  chk (I64 ((list.length : Int) - 1)) <|
  if x10 < ((list.length : Int) - 1) then
   chk (((x17 ++ ([(PInstr.mk 20 (((x12 ++ x19).length : Int) - 1) (PD.mk 0 0 ([] : LB) []))] : List PInstr)).length + ([(PInstr.mk 17 0 (PD.mk 0 0 ([] : LB) []))] : List PInstr).length) * 72 ≤ 140737488355328) <|
   D0 globals8 x10 go13 (known9 + (x14.defines.length : Int)) ((x17 ++ ([(PInstr.mk 20 (((x12 ++ x19).length : Int) - 1) (PD.mk 0 0 ([] : LB) []))] : List PInstr)) ++ ([(PInstr.mk 17 0 (PD.mk 0 0 ([] : LB) []))] : List PInstr)) (x12 ++ x19)
  else
   D0 globals8 x10 go13 (known9 + (x14.defines.length : Int)) (x17 ++ ([(PInstr.mk 20 (((x12 ++ x19).length : Int) - 1) (PD.mk 0 0 ([] : LB) []))] : List PInstr)) (x12 ++ x19)
def N5 (list : List PObj) (globals8 : LI) (known9 : Int) (x10 : Int) (x12 : List PCode) (go13 : (LI × Int × Int × List PInstr × List PCode) → Option (PImage × Bool)) (x14 : PObj) (x15 : LI) (go : (Int × List PInstr) → Option (PImage × Bool)) (v : Int × List PInstr) : Option (PImage × Bool) :=
 match v with
 | (x16, x17) => y8 list globals8 known9 x10 x12 go13 x14 x15 go x16 x17
def F8 (list : List PObj) (globals4 : LI) (go13 : (LI × Int × Int × List PInstr × List PCode) → Option (PImage × Bool)) (globals8 : LI) (known9 : Int) (x10 : Int) (x11 : List PInstr) (x12 : List PCode) : Option (PImage × Bool) :=
 if x10 < (list.length : Int) then
  bnd (nth list x10) fun x14 =>
  chk (I64 (known9 + (x14.defines.length : Int))) <|
  bnd (gD x14.defines) fun x15 =>
  chk ((x15.length + x14.uses.length) * 8 ≤ 140737488355328) <|
  itr (N5 list globals8 known9 x10 x12 go13 x14 x15) LF (0, x11)
 else
  chk ((x11.length + ([(PInstr.mk 14 0 (PD.mk 0 0 ([] : LB) []))] : List PInstr).length) * 72 ≤ 140737488355328) <|
  chk ((x12.length + ([(PCode.mk 0 (globals4.length : Int) 0 (x11 ++ ([(PInstr.mk 14 0 (PD.mk 0 0 ([] : LB) []))] : List PInstr)))] : List PCode).length) * 48 ≤ 140737488355328) <|
  bnd (cJ (PImage.mk (x12 ++ ([(PCode.mk 0 (globals4.length : Int) 0 (x11 ++ ([(PInstr.mk 14 0 (PD.mk 0 0 ([] : LB) []))] : List PInstr)))] : List PCode)) (x12.length : Int)) 0) fun x14 =>
  if x14 = true then
   some ((PImage.mk (x12 ++ ([(PCode.mk 0 (globals4.length : Int) 0 (x11 ++ ([(PInstr.mk 14 0 (PD.mk 0 0 ([] : LB) []))] : List PInstr)))] : List PCode)) (x12.length : Int)), true)
  else
   some ((PImage.mk [] 0), false)
def N4 (list : List PObj) (globals4 : LI) (go : (LI × Int × Int × List PInstr × List PCode) → Option (PImage × Bool)) (v : LI × Int × Int × List PInstr × List PCode) : Option (PImage × Bool) :=
 match v with
 | (globals8, known9, x10, x11, x12) => F8 list globals4 go globals8 known9 x10 x11 x12
def y6 (list : List PObj) (go7 : (Int × LI × List (LB) × List PInstr) → Option (PImage × Bool)) (x3 : Int) (globals4 : LI) (names5 : List (LB)) (x6 : List PInstr) : Option (PImage × Bool) :=
 if x3 < (list.length : Int) then
  bnd (nth list x3) fun x8 =>
  bnd (cK x8) fun x9 =>
  if x9 = true then
   bnd (pX names5 x8.name) fun x10 =>
   if x10 = true then
    some ((PImage.mk [] 0), false)
   else
    itr (N3 x3 names5 go7 x8) LF (0, globals4, x6)
  else
   some ((PImage.mk [] 0), false)
 else
  itr (N4 list globals4) LF (globals4, 0, 0, x6, [])
def W5 (list : List PObj) (go : (Int × LI × List (LB) × List PInstr) → Option (PImage × Bool)) (v : Int × LI × List (LB) × List PInstr) : Option (PImage × Bool) :=
 match v with
 | (x3, globals4, names5, x6) => y6 list go x3 globals4 names5 x6
def Q9 (list : List PObj) : Option (PImage × Bool) :=
 bnd (V1 (list.length : Int) 1 12) fun x2 =>
 if x2 = true then
  itr (W5 list) LF (0, ([] : LI), ([] : List (LB)), [])
 else
  some ((PImage.mk [] 0), false)
end Go.Abs

namespace Go.Abs
set_option linter.unusedVariables false
def gK (a : LI) (left : Int) : Option Int :=
 chk (I64 (left - (a.length : Int))) <|
 if (left - (a.length : Int)) < 0 then
  some (-1)
 else
  some (left - (a.length : Int))
def aC (n9 : PD → Int → Option Int) (s8 : List PD → Int → Option Int) (a : PD) (left : Int) : Option Int :=
 chk (I64 (left - (a.text.length : Int))) <|
 if (left - (a.text.length : Int)) < 0 then
  some (-1)
 else
  bnd (s8 a.items (left - (a.text.length : Int))) fun x5 =>
  if x5 < 0 then
   some (-1)
  else
   some x5
def bP (n9 : PD → Int → Option Int) (a : List PD) (go7 : (Int × Int) → Option Int) (left5 : Int) (i6 : Int) : Option Int :=
 if i6 < (a.length : Int) then
  bnd (nth a i6) fun x8 =>
  bnd (n9 x8 left5) fun x9 =>
  if x9 < 0 then
   some (-1)
  else
   chk (I64 (i6 + 1)) <|
   go7 (x9, (i6 + 1))
 else
  some left5
def eB (n9 : PD → Int → Option Int) (a : List PD) (go : (Int × Int) → Option Int) (v : Int × Int) : Option Int :=
 match v with
 | (left5, i6) => bP n9 a go left5 i6
def V9 (n9 : PD → Int → Option Int) (s8 : List PD → Int → Option Int) (a : List PD) (left : Int) : Option Int :=
 chk (I64 (left - (a.length : Int))) <|
 if (left - (a.length : Int)) < 0 then
  some (-1)
 else
  itr (eB n9 a) LF ((left - (a.length : Int)), 0)
mutual
def n9 : Nat → PD → Int → Option Int
 | 0, _, _ => none
 | n + 1, a, left => aC (n9 n) (s8 n) a left
def s8 : Nat → List PD → Int → Option Int
 | 0, _, _ => none
 | n + 1, a, left => V9 (n9 n) (s8 n) a left
end
def cT (a : PInstr) (left : Int) : Option Int :=
 bnd (n9 RF a.d left) fun x3 =>
 if x3 < 0 then
  some (-1)
 else
  some x3
def bQ (a : List PInstr) (go5 : (Int × Int) → Option Int) (left3 : Int) (i4 : Int) : Option Int :=
 if i4 < (a.length : Int) then
  bnd (nth a i4) fun x6 =>
  bnd (cT x6 left3) fun x7 =>
  if x7 < 0 then
   some (-1)
  else
   chk (I64 (i4 + 1)) <|
   go5 (x7, (i4 + 1))
 else
  some left3
def eC (a : List PInstr) (go : (Int × Int) → Option Int) (v : Int × Int) : Option Int :=
 match v with
 | (left3, i4) => bQ a go left3 i4
def cU (a : List PInstr) (left : Int) : Option Int :=
 chk (I64 (left - (a.length : Int))) <|
 if (left - (a.length : Int)) < 0 then
  some (-1)
 else
  itr (eC a) LF ((left - (a.length : Int)), 0)
def gJ (a : PCode) (left : Int) : Option Int :=
 bnd (cU a.instrs left) fun x3 =>
 if x3 < 0 then
  some (-1)
 else
  some x3
def eA (a : List PCode) (go5 : (Int × Int) → Option Int) (left3 : Int) (i4 : Int) : Option Int :=
 if i4 < (a.length : Int) then
  bnd (nth a i4) fun x6 =>
  bnd (gJ x6 left3) fun x7 =>
  if x7 < 0 then
   some (-1)
  else
   chk (I64 (i4 + 1)) <|
   go5 (x7, (i4 + 1))
 else
  some left3
def fN (a : List PCode) (go : (Int × Int) → Option Int) (v : Int × Int) : Option Int :=
 match v with
 | (left3, i4) => eA a go left3 i4
def kL (a : List PCode) (left : Int) : Option Int :=
 chk (I64 (left - (a.length : Int))) <|
 if (left - (a.length : Int)) < 0 then
  some (-1)
 else
  itr (fN a) LF ((left - (a.length : Int)), 0)
def fO (a : PImage) (left : Int) : Option Int :=
 bnd (kL a.codes left) fun x3 =>
 if x3 < 0 then
  some (-1)
 else
  some x3
def X9 (a : PObj) (left : Int) : Option Int :=
 chk (I64 (left - (a.name.length : Int))) <|
 if (left - (a.name.length : Int)) < 0 then
  some (-1)
 else
  bnd (gK a.defines (left - (a.name.length : Int))) fun x3 =>
  if x3 < 0 then
   some (-1)
  else
   bnd (gK a.uses x3) fun x4 =>
   if x4 < 0 then
    some (-1)
   else
    bnd (fO a.image x4) fun x5 =>
    if x5 < 0 then
     some (-1)
    else
     some x5
def aE (a : List PObj) (go5 : (Int × Int) → Option Int) (left3 : Int) (i4 : Int) : Option Int :=
 if i4 < (a.length : Int) then
  bnd (nth a i4) fun x6 =>
  bnd (X9 x6 left3) fun x7 =>
  if x7 < 0 then
   some (-1)
  else
   chk (I64 (i4 + 1)) <|
   go5 (x7, (i4 + 1))
 else
  some left3
def bR (a : List PObj) (go : (Int × Int) → Option Int) (v : Int × Int) : Option Int :=
 match v with
 | (left3, i4) => aE a go left3 i4
def aD (a : List PObj) (left : Int) : Option Int :=
 chk (I64 (left - (a.length : Int))) <|
 if (left - (a.length : Int)) < 0 then
  some (-1)
 else
  itr (bR a) LF ((left - (a.length : Int)), 0)
def fP (a : LI) (go4 : (Int × LI) → Option (LI)) (i2 : Int) (out3 : LI) : Option (LI) :=
 if i2 < (a.length : Int) then
  bnd (nth a i2) fun x5 =>
  bnd (nth out3 i2) fun x6 =>
  chk (I64 (i2 + 1)) <|
  go4 ((i2 + 1), (out3.set i2.toNat x5))
 else
  some out3
def iP (a : LI) (go : (Int × LI) → Option (LI)) (v : Int × LI) : Option (LI) :=
 match v with
 | (i2, out3) => fP a go i2 out3
def eE (a : LI) : Option (LI) :=
 chk (0 ≤ (a.length : Int) ∧ (8 : Nat) * (a.length : Int) ≤ 281474976710656 ∧ (a.length : Int) ≤ 281474976710656) <|
 itr (iP a) LF (0, (List.replicate (a.length : Int).toNat (0 : Int)))
def aF (n5 : PD → Option PD) (s9 : List PD → Option (List PD)) (a : PD) : Option PD :=
 bnd (s9 a.items) fun x4 =>
 some (PD.mk a.kind a.number a.text x4)
def bS (n5 : PD → Option PD) (a : List PD) (go6 : (Int × List PD) → Option (List PD)) (i4 : Int) (out5 : List PD) : Option (List PD) :=
 if i4 < (a.length : Int) then
  bnd (nth a i4) fun x7 =>
  bnd (n5 x7) fun x8 =>
  bnd (nth out5 i4) fun x9 =>
  chk (I64 (i4 + 1)) <|
  go6 ((i4 + 1), (out5.set i4.toNat x8))
 else
  some out5
def eD (n5 : PD → Option PD) (a : List PD) (go : (Int × List PD) → Option (List PD)) (v : Int × List PD) : Option (List PD) :=
 match v with
 | (i4, out5) => bS n5 a go i4 out5
def W0 (n5 : PD → Option PD) (s9 : List PD → Option (List PD)) (a : List PD) : Option (List PD) :=
 chk (0 ≤ (a.length : Int) ∧ (56 : Nat) * (a.length : Int) ≤ 281474976710656 ∧ (a.length : Int) ≤ 281474976710656) <|
 itr (eD n5 a) LF (0, (List.replicate (a.length : Int).toNat ((PD.mk 0 0 ([] : LB) []) : PD)))
mutual
def n5 : Nat → PD → Option PD
 | 0, _ => none
 | n + 1, a => aF (n5 n) (s9 n) a
def s9 : Nat → List PD → Option (List PD)
 | 0, _ => none
 | n + 1, a => W0 (n5 n) (s9 n) a
end
def W1 (a : PInstr) : Option PInstr :=
 bnd (n5 RF a.d) fun x2 =>
 some (PInstr.mk a.op a.a x2)
def M3 (a : List PInstr) (go4 : (Int × List PInstr) → Option (List PInstr)) (i2 : Int) (out3 : List PInstr) : Option (List PInstr) :=
 if i2 < (a.length : Int) then
  bnd (nth a i2) fun x5 =>
  bnd (W1 x5) fun x6 =>
  bnd (nth out3 i2) fun x7 =>
  chk (I64 (i2 + 1)) <|
  go4 ((i2 + 1), (out3.set i2.toNat x6))
 else
  some out3
def X3 (a : List PInstr) (go : (Int × List PInstr) → Option (List PInstr)) (v : Int × List PInstr) : Option (List PInstr) :=
 match v with
 | (i2, out3) => M3 a go i2 out3
def Y0 (a : List PInstr) : Option (List PInstr) :=
 chk (0 ≤ (a.length : Int) ∧ (72 : Nat) * (a.length : Int) ≤ 281474976710656 ∧ (a.length : Int) ≤ 281474976710656) <|
 itr (X3 a) LF (0, (List.replicate (a.length : Int).toNat ((PInstr.mk 0 0 (PD.mk 0 0 ([] : LB) [])) : PInstr)))
def aY (a : PCode) : Option PCode :=
 bnd (Y0 a.instrs) fun x2 =>
 some (PCode.mk a.params a.slots a.captures x2)
def R5 (a : List PCode) (go4 : (Int × List PCode) → Option (List PCode)) (i2 : Int) (out3 : List PCode) : Option (List PCode) :=
 if i2 < (a.length : Int) then
  bnd (nth a i2) fun x5 =>
  bnd (aY x5) fun x6 =>
  bnd (nth out3 i2) fun x7 =>
  chk (I64 (i2 + 1)) <|
  go4 ((i2 + 1), (out3.set i2.toNat x6))
 else
  some out3
def aZ (a : List PCode) (go : (Int × List PCode) → Option (List PCode)) (v : Int × List PCode) : Option (List PCode) :=
 match v with
 | (i2, out3) => R5 a go i2 out3
def cV (a : List PCode) : Option (List PCode) :=
 chk (0 ≤ (a.length : Int) ∧ (48 : Nat) * (a.length : Int) ≤ 281474976710656 ∧ (a.length : Int) ≤ 281474976710656) <|
 itr (aZ a) LF (0, (List.replicate (a.length : Int).toNat ((PCode.mk 0 0 0 []) : PCode)))
def aG (a : PImage) : Option PImage :=
 bnd (cV a.codes) fun x2 =>
 some (PImage.mk x2 a.main)
def P5 (a : PObj) : Option PObj :=
 bnd (eE a.defines) fun x2 =>
 bnd (eE a.uses) fun x3 =>
 bnd (aG a.image) fun x4 =>
 some (PObj.mk a.name x2 x3 x4)
def K3 (a : List PObj) (go4 : (Int × List PObj) → Option (List PObj)) (i2 : Int) (out3 : List PObj) : Option (List PObj) :=
 if i2 < (a.length : Int) then
  bnd (nth a i2) fun x5 =>
  bnd (P5 x5) fun x6 =>
  bnd (nth out3 i2) fun x7 =>
  chk (I64 (i2 + 1)) <|
  go4 ((i2 + 1), (out3.set i2.toNat x6))
 else
  some out3
def U0 (a : List PObj) (go : (Int × List PObj) → Option (List PObj)) (v : Int × List PObj) : Option (List PObj) :=
 match v with
 | (i2, out3) => K3 a go i2 out3
def F3 (a : List PObj) : Option (List PObj) :=
 chk (0 ≤ (a.length : Int) ∧ (96 : Nat) * (a.length : Int) ≤ 281474976710656 ∧ (a.length : Int) ≤ 281474976710656) <|
 itr (U0 a) LF (0, (List.replicate (a.length : Int).toNat ((PObj.mk ([] : LB) [] [] (PImage.mk [] 0)) : PObj)))
def Z5 (n8 : PD → PD → Option Bool) (s7 : List PD → List PD → Option Bool) (a : PD) (b : PD) : Option Bool :=
 if a.kind = b.kind then
  if a.number = b.number then
   if a.text = b.text then
    bnd (s7 a.items b.items) fun x5 =>
    if x5 = true then
     some true
    else
     some false
   else
    some false
  else
   some false
 else
  some false
def bJ (n8 : PD → PD → Option Bool) (a : List PD) (b : List PD) (go6 : Int → Option Bool) (i5 : Int) : Option Bool :=
 if i5 < (a.length : Int) then
  bnd (nth a i5) fun x7 =>
  bnd (nth b i5) fun x8 =>
  bnd (n8 x7 x8) fun x9 =>
  if x9 = true then
   chk (I64 (i5 + 1)) <|
   go6 (i5 + 1)
  else
   some false
 else
  some true
def dX (n8 : PD → PD → Option Bool) (a : List PD) (b : List PD) (go : Int → Option Bool) (v : Int) : Option Bool :=
 match v with
 | i5 => bJ n8 a b go i5
def V6 (n8 : PD → PD → Option Bool) (s7 : List PD → List PD → Option Bool) (a : List PD) (b : List PD) : Option Bool :=
 if (a.length : Int) = (b.length : Int) then
  itr (dX n8 a b) LF 0
 else
  some false
mutual
def n8 : Nat → PD → PD → Option Bool
 | 0, _, _ => none
 | n + 1, a, b => Z5 (n8 n) (s7 n) a b
def s7 : Nat → List PD → List PD → Option Bool
 | 0, _, _ => none
 | n + 1, a, b => V6 (n8 n) (s7 n) a b
end
def cS (a : PInstr) (b : PInstr) : Option Bool :=
 if a.op = b.op then
  if a.a = b.a then
   bnd (n8 RF a.d b.d) fun x3 =>
   if x3 = true then
    some true
   else
    some false
  else
   some false
 else
  some false
def bK (a : List PInstr) (b : List PInstr) (go4 : Int → Option Bool) (i3 : Int) : Option Bool :=
 if i3 < (a.length : Int) then
  bnd (nth a i3) fun x5 =>
  bnd (nth b i3) fun x6 =>
  bnd (cS x5 x6) fun x7 =>
  if x7 = true then
   chk (I64 (i3 + 1)) <|
   go4 (i3 + 1)
  else
   some false
 else
  some true
def dY (a : List PInstr) (b : List PInstr) (go : Int → Option Bool) (v : Int) : Option Bool :=
 match v with
 | i3 => bK a b go i3
def gG (a : List PInstr) (b : List PInstr) : Option Bool :=
 if (a.length : Int) = (b.length : Int) then
  itr (dY a b) LF 0
 else
  some false
def gF (a : PCode) (b : PCode) : Option Bool :=
 if a.params = b.params then
  if a.slots = b.slots then
   if a.captures = b.captures then
    bnd (gG a.instrs b.instrs) fun x3 =>
    if x3 = true then
     some true
    else
     some false
   else
    some false
  else
   some false
 else
  some false
def dW (a : List PCode) (b : List PCode) (go4 : Int → Option Bool) (i3 : Int) : Option Bool :=
 if i3 < (a.length : Int) then
  bnd (nth a i3) fun x5 =>
  bnd (nth b i3) fun x6 =>
  bnd (gF x5 x6) fun x7 =>
  if x7 = true then
   chk (I64 (i3 + 1)) <|
   go4 (i3 + 1)
  else
   some false
 else
  some true
def fL (a : List PCode) (b : List PCode) (go : Int → Option Bool) (v : Int) : Option Bool :=
 match v with
 | i3 => dW a b go i3
def kJ (a : List PCode) (b : List PCode) : Option Bool :=
 if (a.length : Int) = (b.length : Int) then
  itr (fL a b) LF 0
 else
  some false
def V7 (a : PImage) (b : PImage) : Option Bool :=
 bnd (kJ a.codes b.codes) fun x3 =>
 if x3 = true then
  if a.main = b.main then
   some true
  else
   some false
 else
  some false
def fM (a : LI) (b : LI) (go4 : Int → Option Bool) (i3 : Int) : Option Bool :=
 if i3 < (a.length : Int) then
  bnd (nth a i3) fun x5 =>
  bnd (nth b i3) fun x6 =>
  if x5 = x6 then
   chk (I64 (i3 + 1)) <|
   go4 (i3 + 1)
  else
   some false
 else
  some true
def iO (a : LI) (b : LI) (go : Int → Option Bool) (v : Int) : Option Bool :=
 match v with
 | i3 => fM a b go i3
def gI (a : LI) (b : LI) : Option Bool :=
 if (a.length : Int) = (b.length : Int) then
  itr (iO a b) LF 0
 else
  some false
def X8 (a : PObj) (b : PObj) : Option Bool :=
 if a.name = b.name then
  bnd (gI a.defines b.defines) fun x3 =>
  if x3 = true then
   bnd (gI a.uses b.uses) fun x4 =>
   if x4 = true then
    bnd (V7 a.image b.image) fun x5 =>
    if x5 = true then
     some true
    else
     some false
   else
    some false
  else
   some false
 else
  some false
def Z7 (a : List PObj) (b : List PObj) (go4 : Int → Option Bool) (i3 : Int) : Option Bool :=
 if i3 < (a.length : Int) then
  bnd (nth a i3) fun x5 =>
  bnd (nth b i3) fun x6 =>
  bnd (X8 x5 x6) fun x7 =>
  if x7 = true then
   chk (I64 (i3 + 1)) <|
   go4 (i3 + 1)
  else
   some false
 else
  some true
def bL (a : List PObj) (b : List PObj) (go : Int → Option Bool) (v : Int) : Option Bool :=
 match v with
 | i3 => Z7 a b go i3
def Z6 (a : List PObj) (b : List PObj) : Option Bool :=
 if (a.length : Int) = (b.length : Int) then
  itr (bL a b) LF 0
 else
  some false
def z8 (go6 : (Int × Int × LI) → Option (Int × LI)) (k3 : Int) (i4 : Int) (a5 : LI) : Option (Int × LI) :=
 if i4 < (a5.length : Int) then
  bnd (nth a5 i4) fun x7 =>
  chk (I64 (k3 + 1)) <|
  chk (I64 (i4 + 1)) <|
  go6 ((k3 + 1), (i4 + 1), (a5.set i4.toNat k3))
 else
  some (k3, a5)
def X2 (go : (Int × Int × LI) → Option (Int × LI)) (v : Int × Int × LI) : Option (Int × LI) :=
 match v with
 | (k3, i4, a5) => z8 go k3 i4 a5
def P4 (a : LI) (k : Int) : Option (Int × LI) :=
 itr X2 LF (k, 0, a)
def L9 (go4 : (Int × LB) → Option (LB)) (k2 : Int) (out3 : LB) : Option (LB) :=
 if k2 > 0 then
  chk (0 ≤ k2 ∧ k2 ≤ 9223372036854775807 ∧ (0 : Int) < 10) <|
  chk (I64 (48 + (k2 % 10))) <|
  chk (0 ≤ (48 + (k2 % 10)) ∧ (48 + (k2 % 10)) ≤ 255) <|
  chk (([(UInt8.ofNat (48 + (k2 % 10)).toNat)] : LB).length + out3.length ≤ 9223372036854775807) <|
  chk (0 ≤ k2 ∧ k2 ≤ 9223372036854775807 ∧ (0 : Int) < 10) <|
  go4 ((k2 / 10), (([(UInt8.ofNat (48 + (k2 % 10)).toNat)] : LB) ++ out3))
 else
  chk (([109] : LB).length + out3.length ≤ 9223372036854775807) <|
  some (([109] : LB) ++ out3)
def dZ (go : (Int × LB) → Option (LB)) (v : Int × LB) : Option (LB) :=
 match v with
 | (k2, out3) => L9 go k2 out3
def G1 (k : Int) : Option (LB) :=
 if k ≤ 0 then
  some ([109, 48] : LB)
 else
  itr dZ LF (k, ([] : LB))
def p7 (l6 : List PD → Int → Option (Int × List PD)) (go7 : (Int × Int × List PD) → Option (Int × List PD)) (k4 : Int) (i5 : Int) (a6 : List PD) : Option (Int × List PD) :=
 if i5 < (a6.length : Int) then
  bnd (nth a6 i5) fun x8 =>
  chk (I64 (k4 + 1)) <|
  bnd (nth (a6.set i5.toNat (PD.mk k4 x8.number x8.text x8.items)) i5) fun x9 =>
  chk (I64 ((k4 + 1) + 1)) <|
  bnd (G1 ((k4 + 1) + 1)) fun x10 =>
  bnd (nth ((a6.set i5.toNat (PD.mk k4 x8.number x8.text x8.items)).set i5.toNat (PD.mk x9.kind (k4 + 1) x9.text x9.items)) i5) fun x11 =>
  chk (I64 (((k4 + 1) + 1) + 1)) <|
  bnd (nth (((a6.set i5.toNat (PD.mk k4 x8.number x8.text x8.items)).set i5.toNat (PD.mk x9.kind (k4 + 1) x9.text x9.items)).set i5.toNat (PD.mk x11.kind x11.number x10 x11.items)) i5) fun x12 =>
  bnd (l6 x12.items (((k4 + 1) + 1) + 1)) fun x13 =>
  chk (x13.2.length = x12.items.length) <|
  chk (I64 (i5 + 1)) <|
  go7 (x13.1, (i5 + 1), ((((a6.set i5.toNat (PD.mk k4 x8.number x8.text x8.items)).set i5.toNat (PD.mk x9.kind (k4 + 1) x9.text x9.items)).set i5.toNat (PD.mk x11.kind x11.number x10 x11.items)).set i5.toNat (PD.mk x12.kind x12.number x12.text x13.2)))
 else
  some (k4, a6)
def R1 (l6 : List PD → Int → Option (Int × List PD)) (go : (Int × Int × List PD) → Option (Int × List PD)) (v : Int × Int × List PD) : Option (Int × List PD) :=
 match v with
 | (k4, i5, a6) => p7 l6 go k4 i5 a6
def F0 (l6 : List PD → Int → Option (Int × List PD)) (a : List PD) (k : Int) : Option (Int × List PD) :=
 itr (R1 l6) LF (k, 0, a)
def l6 : Nat → List PD → Int → Option (Int × List PD)
 | 0, _, _ => none
 | n + 1, a, k => F0 (l6 n) a k
def p8 (a : List PInstr) (go6 : (Int × Int × List PInstr) → Option (Int × List PInstr)) (k3 : Int) (i4 : Int) (a5 : List PInstr) : Option (Int × List PInstr) :=
 if i4 < (a5.length : Int) then
  bnd (nth a5 i4) fun x7 =>
  chk (I64 (k3 + 1)) <|
  bnd (nth (a5.set i4.toNat (PInstr.mk k3 x7.a x7.d)) i4) fun x8 =>
  chk (I64 ((k3 + 1) + 1)) <|
  bnd (nth ((a5.set i4.toNat (PInstr.mk k3 x7.a x7.d)).set i4.toNat (PInstr.mk x8.op (k3 + 1) x8.d)) i4) fun x9 =>
  chk (I64 (((k3 + 1) + 1) + 1)) <|
  bnd (nth (((a5.set i4.toNat (PInstr.mk k3 x7.a x7.d)).set i4.toNat (PInstr.mk x8.op (k3 + 1) x8.d)).set i4.toNat (PInstr.mk x9.op x9.a (PD.mk ((k3 + 1) + 1) x9.d.number x9.d.text x9.d.items))) i4) fun x10 =>
  chk (I64 ((((k3 + 1) + 1) + 1) + 1)) <|
  bnd (G1 ((((k3 + 1) + 1) + 1) + 1)) fun x11 =>
  bnd (nth ((((a5.set i4.toNat (PInstr.mk k3 x7.a x7.d)).set i4.toNat (PInstr.mk x8.op (k3 + 1) x8.d)).set i4.toNat (PInstr.mk x9.op x9.a (PD.mk ((k3 + 1) + 1) x9.d.number x9.d.text x9.d.items))).set i4.toNat (PInstr.mk x10.op x10.a (PD.mk x10.d.kind (((k3 + 1) + 1) + 1) x10.d.text x10.d.items))) i4) fun x12 =>
  chk (I64 (((((k3 + 1) + 1) + 1) + 1) + 1)) <|
  bnd (nth (((((a5.set i4.toNat (PInstr.mk k3 x7.a x7.d)).set i4.toNat (PInstr.mk x8.op (k3 + 1) x8.d)).set i4.toNat (PInstr.mk x9.op x9.a (PD.mk ((k3 + 1) + 1) x9.d.number x9.d.text x9.d.items))).set i4.toNat (PInstr.mk x10.op x10.a (PD.mk x10.d.kind (((k3 + 1) + 1) + 1) x10.d.text x10.d.items))).set i4.toNat (PInstr.mk x12.op x12.a (PD.mk x12.d.kind x12.d.number x11 x12.d.items))) i4) fun x13 =>
  bnd (l6 RF x13.d.items (((((k3 + 1) + 1) + 1) + 1) + 1)) fun x14 =>
  chk (x14.2.length = x13.d.items.length) <|
  chk (I64 (i4 + 1)) <|
  go6 (x14.1, (i4 + 1), ((((((a5.set i4.toNat (PInstr.mk k3 x7.a x7.d)).set i4.toNat (PInstr.mk x8.op (k3 + 1) x8.d)).set i4.toNat (PInstr.mk x9.op x9.a (PD.mk ((k3 + 1) + 1) x9.d.number x9.d.text x9.d.items))).set i4.toNat (PInstr.mk x10.op x10.a (PD.mk x10.d.kind (((k3 + 1) + 1) + 1) x10.d.text x10.d.items))).set i4.toNat (PInstr.mk x12.op x12.a (PD.mk x12.d.kind x12.d.number x11 x12.d.items))).set i4.toNat (PInstr.mk x13.op x13.a (PD.mk x13.d.kind x13.d.number x13.d.text x14.2))))
 else
  some (k3, a5)
def R2 (a : List PInstr) (go : (Int × Int × List PInstr) → Option (Int × List PInstr)) (v : Int × Int × List PInstr) : Option (Int × List PInstr) :=
 match v with
 | (k3, i4, a5) => p8 a go k3 i4 a5
def K2 (a : List PInstr) (k : Int) : Option (Int × List PInstr) :=
 itr (R2 a) LF (k, 0, a)
def r8 (go6 : (Int × Int × List PCode) → Option (Int × List PCode)) (k3 : Int) (i4 : Int) (a5 : List PCode) : Option (Int × List PCode) :=
 if i4 < (a5.length : Int) then
  bnd (nth a5 i4) fun x7 =>
  chk (I64 (k3 + 1)) <|
  bnd (nth (a5.set i4.toNat (PCode.mk k3 x7.slots x7.captures x7.instrs)) i4) fun x8 =>
  chk (I64 ((k3 + 1) + 1)) <|
  bnd (nth ((a5.set i4.toNat (PCode.mk k3 x7.slots x7.captures x7.instrs)).set i4.toNat (PCode.mk x8.params (k3 + 1) x8.captures x8.instrs)) i4) fun x9 =>
  chk (I64 (((k3 + 1) + 1) + 1)) <|
  bnd (nth (((a5.set i4.toNat (PCode.mk k3 x7.slots x7.captures x7.instrs)).set i4.toNat (PCode.mk x8.params (k3 + 1) x8.captures x8.instrs)).set i4.toNat (PCode.mk x9.params x9.slots ((k3 + 1) + 1) x9.instrs)) i4) fun x10 =>
  bnd (K2 x10.instrs (((k3 + 1) + 1) + 1)) fun x11 =>
  chk (x11.2.length = x10.instrs.length) <|
  chk (I64 (i4 + 1)) <|
  go6 (x11.1, (i4 + 1), ((((a5.set i4.toNat (PCode.mk k3 x7.slots x7.captures x7.instrs)).set i4.toNat (PCode.mk x8.params (k3 + 1) x8.captures x8.instrs)).set i4.toNat (PCode.mk x9.params x9.slots ((k3 + 1) + 1) x9.instrs)).set i4.toNat (PCode.mk x10.params x10.slots x10.captures x11.2)))
 else
  some (k3, a5)
def T9 (go : (Int × Int × List PCode) → Option (Int × List PCode)) (v : Int × Int × List PCode) : Option (Int × List PCode) :=
 match v with
 | (k3, i4, a5) => r8 go k3 i4 a5
def K1 (a : List PCode) (k : Int) : Option (Int × List PCode) :=
 itr T9 LF (k, 0, a)
def z2 (go6 : (Int × Int × List PObj) → Option (Int × List PObj)) (k3 : Int) (i4 : Int) (a5 : List PObj) : Option (Int × List PObj) :=
 if i4 < (a5.length : Int) then
  bnd (G1 k3) fun x7 =>
  bnd (nth a5 i4) fun x8 =>
  chk (I64 (k3 + 1)) <|
  bnd (nth (a5.set i4.toNat (PObj.mk x7 x8.defines x8.uses x8.image)) i4) fun x9 =>
  bnd (P4 x9.defines (k3 + 1)) fun x10 =>
  chk (x10.2.length = x9.defines.length) <|
  bnd (nth ((a5.set i4.toNat (PObj.mk x7 x8.defines x8.uses x8.image)).set i4.toNat (PObj.mk x9.name x10.2 x9.uses x9.image)) i4) fun x11 =>
  bnd (P4 x11.uses x10.1) fun x12 =>
  chk (x12.2.length = x11.uses.length) <|
  bnd (nth (((a5.set i4.toNat (PObj.mk x7 x8.defines x8.uses x8.image)).set i4.toNat (PObj.mk x9.name x10.2 x9.uses x9.image)).set i4.toNat (PObj.mk x11.name x11.defines x12.2 x11.image)) i4) fun x13 =>
  bnd (K1 x13.image.codes x12.1) fun x14 =>
  chk (x14.2.length = x13.image.codes.length) <|
  bnd (nth ((((a5.set i4.toNat (PObj.mk x7 x8.defines x8.uses x8.image)).set i4.toNat (PObj.mk x9.name x10.2 x9.uses x9.image)).set i4.toNat (PObj.mk x11.name x11.defines x12.2 x11.image)).set i4.toNat (PObj.mk x13.name x13.defines x13.uses (PImage.mk x14.2 x13.image.main))) i4) fun x15 =>
  chk (I64 (x14.1 + 1)) <|
  chk (I64 (i4 + 1)) <|
  go6 ((x14.1 + 1), (i4 + 1), (((((a5.set i4.toNat (PObj.mk x7 x8.defines x8.uses x8.image)).set i4.toNat (PObj.mk x9.name x10.2 x9.uses x9.image)).set i4.toNat (PObj.mk x11.name x11.defines x12.2 x11.image)).set i4.toNat (PObj.mk x13.name x13.defines x13.uses (PImage.mk x14.2 x13.image.main))).set i4.toNat (PObj.mk x15.name x15.defines x15.uses (PImage.mk x15.image.codes x14.1))))
 else
  some (k3, a5)
def W7 (go : (Int × Int × List PObj) → Option (Int × List PObj)) (v : Int × Int × List PObj) : Option (Int × List PObj) :=
 match v with
 | (k3, i4, a5) => z2 go k3 i4 a5
def R3 (a : List PObj) (k : Int) : Option (Int × List PObj) :=
 itr W7 LF (k, 0, a)
def O4 (a : PImage) (k : Int) : Option (Int × List PCode) :=
 bnd (K1 a.codes k) fun x3 =>
 chk (x3.2.length = a.codes.length) <|
 some (x3.1, x3.2)
def A5 (m8 : List PD → Int → Option Int) (a : List PD) (go6 : (Int × Int) → Option Int) (k4 : Int) (i5 : Int) : Option Int :=
 if i5 < (a.length : Int) then
  bnd (nth a i5) fun x7 =>
  if x7.kind = k4 then
   chk (I64 (k4 + 1)) <|
   bnd (nth a i5) fun x8 =>
   if x8.number = (k4 + 1) then
    chk (I64 ((k4 + 1) + 1)) <|
    bnd (nth a i5) fun x9 =>
    bnd (G1 ((k4 + 1) + 1)) fun x10 =>
    if x9.text = x10 then
     chk (I64 (((k4 + 1) + 1) + 1)) <|
     bnd (nth a i5) fun x11 =>
     bnd (m8 x11.items (((k4 + 1) + 1) + 1)) fun x12 =>
     if x12 < 0 then
      some (-1)
     else
      chk (I64 (i5 + 1)) <|
      go6 (x12, (i5 + 1))
    else
     some (-1)
   else
    some (-1)
  else
   some (-1)
 else
  some k4
def Z9 (m8 : List PD → Int → Option Int) (a : List PD) (go : (Int × Int) → Option Int) (v : Int × Int) : Option Int :=
 match v with
 | (k4, i5) => A5 m8 a go k4 i5
def L8 (m8 : List PD → Int → Option Int) (a : List PD) (k : Int) : Option Int :=
 itr (Z9 m8 a) LF (k, 0)
def m8 : Nat → List PD → Int → Option Int
 | 0, _, _ => none
 | n + 1, a, k => L8 (m8 n) a k
def A6 (a : List PInstr) (go5 : (Int × Int) → Option Int) (k3 : Int) (i4 : Int) : Option Int :=
 if i4 < (a.length : Int) then
  bnd (nth a i4) fun x6 =>
  if x6.op = k3 then
   chk (I64 (k3 + 1)) <|
   bnd (nth a i4) fun x7 =>
   if x7.a = (k3 + 1) then
    chk (I64 ((k3 + 1) + 1)) <|
    bnd (nth a i4) fun x8 =>
    if x8.d.kind = ((k3 + 1) + 1) then
     chk (I64 (((k3 + 1) + 1) + 1)) <|
     bnd (nth a i4) fun x9 =>
     if x9.d.number = (((k3 + 1) + 1) + 1) then
      chk (I64 ((((k3 + 1) + 1) + 1) + 1)) <|
      bnd (nth a i4) fun x10 =>
      bnd (G1 ((((k3 + 1) + 1) + 1) + 1)) fun x11 =>
      if x10.d.text = x11 then
       chk (I64 (((((k3 + 1) + 1) + 1) + 1) + 1)) <|
       bnd (nth a i4) fun x12 =>
       bnd (m8 RF x12.d.items (((((k3 + 1) + 1) + 1) + 1) + 1)) fun x13 =>
       if x13 < 0 then
        some (-1)
       else
        chk (I64 (i4 + 1)) <|
        go5 (x13, (i4 + 1))
      else
       some (-1)
     else
      some (-1)
    else
     some (-1)
   else
    some (-1)
  else
   some (-1)
 else
  some k3
def aA (a : List PInstr) (go : (Int × Int) → Option Int) (v : Int × Int) : Option Int :=
 match v with
 | (k3, i4) => A6 a go k3 i4
def V8 (a : List PInstr) (k : Int) : Option Int :=
 itr (aA a) LF (k, 0)
def C4 (a : List PCode) (go5 : (Int × Int) → Option Int) (k3 : Int) (i4 : Int) : Option Int :=
 if i4 < (a.length : Int) then
  bnd (nth a i4) fun x6 =>
  if x6.params = k3 then
   chk (I64 (k3 + 1)) <|
   bnd (nth a i4) fun x7 =>
   if x7.slots = (k3 + 1) then
    chk (I64 ((k3 + 1) + 1)) <|
    bnd (nth a i4) fun x8 =>
    if x8.captures = ((k3 + 1) + 1) then
     chk (I64 (((k3 + 1) + 1) + 1)) <|
     bnd (nth a i4) fun x9 =>
     bnd (V8 x9.instrs (((k3 + 1) + 1) + 1)) fun x10 =>
     if x10 < 0 then
      some (-1)
     else
      chk (I64 (i4 + 1)) <|
      go5 (x10, (i4 + 1))
    else
     some (-1)
   else
    some (-1)
  else
   some (-1)
 else
  some k3
def bM (a : List PCode) (go : (Int × Int) → Option Int) (v : Int × Int) : Option Int :=
 match v with
 | (k3, i4) => C4 a go k3 i4
def Z8 (a : List PCode) (k : Int) : Option Int :=
 itr (bM a) LF (k, 0)
def T6 (a : PImage) (k : Int) : Option Int :=
 bnd (Z8 a.codes k) fun x3 =>
 if x3 < 0 then
  some (-1)
 else
  some x3
def F4 (aList : List PObj) : Option Bool :=
 bnd (aD aList 1048576) fun x2 =>
 if x2 < 0 then
  some true
 else
  bnd (F3 aList) fun x3 =>
  bnd (Q9 x3) fun x4 =>
  bnd (F3 aList) fun x5 =>
  bnd (K6 x5) fun x6 =>
  bnd (V7 x6.1 x4.1) fun x7 =>
  if x7 = true then
   if x6.2 = x4.2 then
    bnd (F3 aList) fun x8 =>
    bnd (Z6 x5 x8) fun x9 =>
    if x9 = true then
     bnd (R3 x5 1) fun x10 =>
     chk (x10.2.length = x5.length) <|
     if x10.1 < 0 then
      some false
     else
      bnd (V7 x6.1 x4.1) fun x11 =>
      if x11 = true then
       if x6.2 = x4.2 then
        bnd (O4 x6.1 1) fun x12 =>
        chk (x12.2.length = x6.1.codes.length) <|
        bnd (T6 (PImage.mk x12.2 x6.1.main) 1) fun x13 =>
        if x13 < 0 then
         some false
        else
         if x13 = x12.1 then
          bnd (F3 aList) fun x14 =>
          bnd (K6 x14) fun x15 =>
          bnd (V7 x15.1 x4.1) fun x16 =>
          if x16 = true then
           if x15.2 = x4.2 then
            bnd (T6 (PImage.mk x12.2 x6.1.main) 1) fun x17 =>
            if x17 < 0 then
             some false
            else
             if x17 = x12.1 then
              some true
             else
              some false
           else
            some false
          else
           some false
         else
          some false
       else
        some false
      else
       some false
    else
     some false
   else
    some false
  else
   some false
end Go.Abs
