
import Derived.Test.YtefjnefkdanakaaGreatDoorLibD
import Derived.Test.YtefjnefkdanakaaGreatDoorLibE
import Derived.Test.YtefjnefkdanakaaGreatDoorLibV
set_option linter.unusedVariables false
set_option linter.unusedSimpArgs false
namespace Go.Abs
set_option linter.unusedVariables false
def w7 (x_1 : Int) : Option (LB) :=
 bnd (x_Itoa x_1) fun x2 =>
 some x2
def D4 (s : LB) (go3 : Int → Option Bool) (i2 : Int) : Option Bool :=
 if i2 < (s.length : Int) then
  bnd (nth s i2) fun x4 =>
  if (x4.toNat : Int) < 32 then
   some false
  else
   bnd (nth s i2) fun x5 =>
   if (x5.toNat : Int) > 126 then
    some false
   else
    bnd (nth s i2) fun x6 =>
    if (x6.toNat : Int) = 34 then
     some false
    else
     chk (I64 (i2 + 1)) <|
     go3 (i2 + 1)
 else
  some true
def cG (s : LB) (go : Int → Option Bool) (v : Int) : Option Bool :=
 match v with
 | i2 => D4 s go i2
def Q0 (s : LB) : Option Bool :=
 if (s.length : Int) > 20 then
  some false
 else
  itr (cG s) LF 0
def eS (b : Int) : Option Bool :=
 if b ≥ 48 then
  some (decide (b ≤ 57))
 else
  some false
def z8 (b : Int) (x2 : Bool) : Option Bool :=
 if x2 = true then
  some true
 else
  if b = 33 then
   some true
  else
   if b = 63 then
    some true
   else
    if b = 42 then
     some true
    else
     if b = 60 then
      some true
     else
      if b = 62 then
       some true
      else
       if b = 61 then
        some true
       else
        if b = 47 then
         some true
        else
         if b = 43 then
          some true
         else
          if b = 45 then
           some true
          else
           if b = 46 then
            some true
           else
            if b = 95 then
             some true
            else
             some false
def Z9 (b : Int) : Option Bool :=
 if b ≥ 97 then
  if b ≤ 122 then
   z8 b true
  else
   if b ≥ 48 then
    z8 b (decide (b ≤ 57))
   else
    z8 b false
 else
  if b ≥ 48 then
   z8 b (decide (b ≤ 57))
  else
   z8 b false
def I6 (s : LB) (go4 : Int → Option Bool) (i3 : Int) : Option Bool :=
 if i3 < (s.length : Int) then
  bnd (nth s i3) fun x5 =>
  bnd (Z9 (x5.toNat : Int)) fun x6 =>
  if x6 = true then
   chk (I64 (i3 + 1)) <|
   go4 (i3 + 1)
  else
   some false
 else
  some true
def fR (s : LB) (go : Int → Option Bool) (v : Int) : Option Bool :=
 match v with
 | i3 => I6 s go i3
def A9 (s : LB) (x2 : Bool) : Option Bool :=
 if x2 = true then
  some false
 else
  itr (fR s) LF 0
def bO (s : LB) : Option Bool :=
 if (s.length : Int) < 1 then
  A9 s true
 else
  if (s.length : Int) > 16 then
   A9 s true
  else
   bnd (nth s 0) fun x2 =>
   bnd (eS (x2.toNat : Int)) fun x3 =>
   if x3 = true then
    A9 s true
   else
    bnd (nth s 0) fun x4 =>
    if (x4.toNat : Int) = 45 then
     if (s.length : Int) > 1 then
      bnd (nth s 1) fun x5 =>
      bnd (eS (x5.toNat : Int)) fun x6 =>
      A9 s x6
     else
      A9 s false
    else
     A9 s false
def cE (kind : Int) (number : Int) (text : LB) (items : Int) : Option Bool :=
 if kind = 0 then
  if number = 0 then
   some (decide (text = ([] : LB)))
  else
   some false
 else
  if kind = 1 then
   if number = 0 then
    if items = 0 then
     bnd (bO text) fun x5 =>
     some x5
    else
     some false
   else
    some false
  else
   if kind = 2 then
    if number ≥ (-999999999) then
     if number ≤ 999999999 then
      if text = ([] : LB) then
       some (decide (items = 0))
      else
       some false
     else
      some false
    else
     some false
   else
    if kind = 3 then
     if number = 0 then
      if text = ([] : LB) then
       some (decide (items = 0))
      else
       some false
     else
      if number = 1 then
       if text = ([] : LB) then
        some (decide (items = 0))
       else
        some false
      else
       some false
    else
     if kind = 4 then
      if number = 0 then
       if items = 0 then
        bnd (Q0 text) fun x5 =>
        some x5
       else
        some false
      else
       some false
     else
      some false
def L9 (v8 : PD → Int → Int → Option (Bool × Int)) (d : PD) (deep : Int) (go8 : (Int × Int) → Option (Bool × Int)) (x6 : Int) (nodes7 : Int) : Option (Bool × Int) :=
 if x6 < (d.items.length : Int) then
  bnd (nth d.items x6) fun x9 =>
  chk (I64 (deep + 1)) <|
  bnd (v8 x9 (deep + 1) nodes7) fun x10 =>
  if x10.1 = true then
   chk (I64 (x6 + 1)) <|
   go8 ((x6 + 1), x10.2)
  else
   some (false, x10.2)
 else
  some (true, nodes7)
def iM (v8 : PD → Int → Int → Option (Bool × Int)) (d : PD) (deep : Int) (go : (Int × Int) → Option (Bool × Int)) (v : Int × Int) : Option (Bool × Int) :=
 match v with
 | (x6, nodes7) => L9 v8 d deep go x6 nodes7
def cB (v8 : PD → Int → Int → Option (Bool × Int)) (d : PD) (deep : Int) (nodes : Int) : Option (Bool × Int) :=
 chk (I64 (nodes + 1)) <|
 if deep > 20 then
  some (false, (nodes + 1))
 else
  if (nodes + 1) > 600 then
   some (false, (nodes + 1))
  else
   bnd (cE d.kind d.number d.text (d.items.length : Int)) fun x5 =>
   if x5 = true then
    itr (iM v8 d deep) LF (0, (nodes + 1))
   else
    some (false, (nodes + 1))
def v8 : Nat → PD → Int → Int → Option (Bool × Int)
 | 0, _, _, _ => none
 | n + 1, d, deep, nodes => cB (v8 n) d deep nodes
def eP (d : PD) : Option Bool :=
 bnd (v8 RF d 1 0) fun x2 =>
 some x2.1
def F8 (n6 : LB → PD → Option (LB)) (x4 : Int) (go6 : (Int × LB) → Option (LB)) (x7 : PD) (out8 : LB) : Option (LB) :=
 bnd (n6 out8 x7) fun x9 =>
 chk (I64 (x4 + 1)) <|
 go6 ((x4 + 1), x9)
def O0 (n6 : LB → PD → Option (LB)) (d : PD) (go6 : (Int × LB) → Option (LB)) (x4 : Int) (out5 : LB) : Option (LB) :=
 if x4 < (d.items.length : Int) then
  bnd (nth d.items x4) fun x7 =>
  if x4 > 0 then
   chk ((out5.length + ([32] : LB).length) * 1 ≤ 140737488355328) <|
   F8 n6 x4 go6 x7 (out5 ++ ([32] : LB))
  else
   F8 n6 x4 go6 x7 out5
 else
  chk ((out5.length + ([41] : LB).length) * 1 ≤ 140737488355328) <|
  some (out5 ++ ([41] : LB))
def cI (n6 : LB → PD → Option (LB)) (d : PD) (go : (Int × LB) → Option (LB)) (v : Int × LB) : Option (LB) :=
 match v with
 | (x4, out5) => O0 n6 d go x4 out5
def R8 (n6 : LB → PD → Option (LB)) (out : LB) (d : PD) : Option (LB) :=
 if d.kind = 1 then
  chk ((out.length + d.text.length) * 1 ≤ 140737488355328) <|
  some (out ++ d.text)
 else
  if d.kind = 2 then
   bnd (w7 d.number) fun x4 =>
   chk ((out.length + x4.length) * 1 ≤ 140737488355328) <|
   some (out ++ x4)
  else
   if d.kind = 3 then
    if d.number = 1 then
     chk ((out.length + ([35, 116] : LB).length) * 1 ≤ 140737488355328) <|
     some (out ++ ([35, 116] : LB))
    else
     chk ((out.length + ([35, 102] : LB).length) * 1 ≤ 140737488355328) <|
     some (out ++ ([35, 102] : LB))
   else
    if d.kind = 4 then
     chk ((out.length + ([34] : LB).length) * 1 ≤ 140737488355328) <|
     chk (((out ++ ([34] : LB)).length + d.text.length) * 1 ≤ 140737488355328) <|
     chk ((((out ++ ([34] : LB)) ++ d.text).length + ([34] : LB).length) * 1 ≤ 140737488355328) <|
     some (((out ++ ([34] : LB)) ++ d.text) ++ ([34] : LB))
    else
     chk ((out.length + ([40] : LB).length) * 1 ≤ 140737488355328) <|
     itr (cI n6 d) LF (0, (out ++ ([40] : LB)))
def n6 : Nat → LB → PD → Option (LB)
 | 0, _, _ => none
 | n + 1, out, d => R8 (n6 n) out d
def W0 (d : PD) : Option (LB) :=
 bnd (eP d) fun x2 =>
 if x2 = true then
  bnd (n6 RF [] d) fun x3 =>
  some x3
 else
  some ([] : LB)
def W2 (op : Int) : Option (LB) :=
 if op < 1 then
  some ([] : LB)
 else
  if op > 20 then
   some ([] : LB)
  else
   chk (I64 (op - 1)) <|
   bnd (nth E5 (op - 1)) fun x2 =>
   some x2
def bW (s4 : PD → PD → Option Bool) (a : PD) (b : PD) (go5 : Int → Option Bool) (x4 : Int) : Option Bool :=
 if x4 < (a.items.length : Int) then
  bnd (nth a.items x4) fun x6 =>
  bnd (nth b.items x4) fun x7 =>
  bnd (s4 x6 x7) fun x8 =>
  if x8 = true then
   chk (I64 (x4 + 1)) <|
   go5 (x4 + 1)
  else
   some false
 else
  some true
def dV (s4 : PD → PD → Option Bool) (a : PD) (b : PD) (go : Int → Option Bool) (v : Int) : Option Bool :=
 match v with
 | x4 => bW s4 a b go x4
def V9 (s4 : PD → PD → Option Bool) (a : PD) (b : PD) : Option Bool :=
 if a.kind = b.kind then
  if a.number = b.number then
   if a.text = b.text then
    if (a.items.length : Int) = (b.items.length : Int) then
     itr (dV s4 a b) LF 0
    else
     some false
   else
    some false
  else
   some false
 else
  some false
def s4 : Nat → PD → PD → Option Bool
 | 0, _, _ => none
 | n + 1, a, b => V9 (s4 n) a b
def eR (x_1 : PInstr) : Option Bool :=
 if x_1.op < 1 then
  some false
 else
  if x_1.op > 20 then
   some false
  else
   if x_1.op = 1 then
    if x_1.a = 0 then
     bnd (eP x_1.d) fun x2 =>
     some x2
    else
     some false
   else
    bnd (s4 RF x_1.d (PD.mk 0 0 ([] : LB) [])) fun x2 =>
    if x2 = true then
     if x_1.a < 0 then
      some false
     else
      if x_1.a > 4000 then
       some false
      else
       if x_1.a = 0 then
        some true
       else
        if x_1.op = 14 then
         some false
        else
         some (!decide (x_1.op = 17))
    else
     some false
def A8 (x_1 : PInstr) : Option (LB) :=
 bnd (eR x_1) fun x2 =>
 if x2 = true then
  if x_1.op = 1 then
   bnd (W2 x_1.op) fun x3 =>
   chk (x3.length + ([32] : LB).length ≤ 9223372036854775807) <|
   bnd (W0 x_1.d) fun x4 =>
   chk ((x3 ++ ([32] : LB)).length + x4.length ≤ 9223372036854775807) <|
   some ((x3 ++ ([32] : LB)) ++ x4)
  else
   if x_1.op = 14 then
    bnd (W2 x_1.op) fun x3 =>
    some x3
   else
    if x_1.op = 17 then
     bnd (W2 x_1.op) fun x3 =>
     some x3
    else
     bnd (W2 x_1.op) fun x3 =>
     chk (x3.length + ([32] : LB).length ≤ 9223372036854775807) <|
     bnd (w7 x_1.a) fun x4 =>
     chk ((x3 ++ ([32] : LB)).length + x4.length ≤ 9223372036854775807) <|
     some ((x3 ++ ([32] : LB)) ++ x4)
 else
  some ([] : LB)
def L8 (s : LB) : Option (Int × Bool) :=
 if (s.length : Int) = 0 then
  some (0, false)
 else
  if (s.length : Int) > 10 then
   some (0, false)
  else
   bnd (x_Atoi s) fun x2 =>
   if x2.2 = true then
    some (0, false)
   else
    if x2.1 < (-999999999) then
     some (0, false)
    else
     if x2.1 > 999999999 then
      some (0, false)
     else
      bnd (w7 x2.1) fun x3 =>
      if x3 = s then
       some (x2.1, true)
      else
       some (0, false)
def B2 (go3 : PRdI → Option PRdI) (r6 : PRdI) (go7 : PRdI → Option PRdI) (x8 : Bool) : Option PRdI :=
 if x8 = true then
  chk (I64 (r6.pos + 1)) <|
  go7 (PRdI.mk r6.src (r6.pos + 1) r6.nodes)
 else
  go3 r6
def y5 (go3 : PRdI → Option PRdI) (go7 : PRdI → Option PRdI) (r6 : PRdI) : Option PRdI :=
 if r6.pos < (r6.src.length : Int) then
  bnd (nth r6.src r6.pos) fun x8 =>
  B2 go3 r6 go7 (!decide ((x8.toNat : Int) = 10))
 else
  B2 go3 r6 go7 false
def aU (go3 : PRdI → Option PRdI) (go : PRdI → Option PRdI) (v : PRdI) : Option PRdI :=
 match v with
 | r6 => y5 go3 go r6
def A2 (r2 : PRdI) (go3 : PRdI → Option PRdI) (x4 : UInt8) (x5 : Bool) : Option PRdI :=
 if x5 = true then
  chk (I64 (r2.pos + 1)) <|
  go3 (PRdI.mk r2.src (r2.pos + 1) r2.nodes)
 else
  if (x4.toNat : Int) = 59 then
   itr (aU go3) LF r2
  else
   some r2
def s7 (go3 : PRdI → Option PRdI) (r2 : PRdI) : Option PRdI :=
 if r2.pos < (r2.src.length : Int) then
  bnd (nth r2.src r2.pos) fun x4 =>
  if (x4.toNat : Int) = 32 then
   A2 r2 go3 x4 true
  else
   if (x4.toNat : Int) = 10 then
    A2 r2 go3 x4 true
   else
    A2 r2 go3 x4 (decide ((x4.toNat : Int) = 9))
 else
  some r2
def aT (go : PRdI → Option PRdI) (v : PRdI) : Option PRdI :=
 match v with
 | r2 => s7 go r2
def M0 (r : PRdI) : Option PRdI :=
 itr aT LF r
def iL (b : Int) : Option Bool :=
 if b = 32 then
  some true
 else
  if b = 10 then
   some true
  else
   if b = 9 then
    some true
   else
    if b = 40 then
     some true
    else
     if b = 41 then
      some true
     else
      if b = 34 then
       some true
      else
       if b = 59 then
        some true
       else
        if b = 39 then
         some true
        else
         some false
def kC (s : LB) : Option (PD × Bool) :=
 bnd (L8 s) fun x2 =>
 if x2.2 = true then
  some ((PD.mk 2 x2.1 ([] : LB) []), true)
 else
  if s = ([35, 116] : LB) then
   some ((PD.mk 3 1 ([] : LB) []), true)
  else
   if s = ([35, 102] : LB) then
    some ((PD.mk 3 0 ([] : LB) []), true)
   else
    bnd (bO s) fun x3 =>
    if x3 = true then
     some ((PD.mk 1 0 s []), true)
    else
     some ((PD.mk 0 0 ([] : LB) []), false)
def G9 (j5 : PRdI → Option (PD × Bool × PRdI)) (go7 : (PRdI × List PD) → Option (PD × Bool × PRdI)) (r5 : PRdI) (items6 : List PD) : Option (PD × Bool × PRdI) :=
 bnd (M0 r5) fun x8 =>
 if x8.pos ≥ (x8.src.length : Int) then
  some ((PD.mk 0 0 ([] : LB) []), false, x8)
 else
  bnd (nth x8.src x8.pos) fun x9 =>
  if (x9.toNat : Int) = 41 then
   chk (I64 (x8.pos + 1)) <|
   some ((PD.mk 0 0 ([] : LB) items6), true, (PRdI.mk x8.src (x8.pos + 1) x8.nodes))
  else
   bnd (j5 x8) fun x10 =>
   if x10.2.1 = true then
    chk ((items6.length + ([x10.1] : List PD).length) * 56 ≤ 140737488355328) <|
    go7 (x10.2.2, (items6 ++ ([x10.1] : List PD)))
   else
    some ((PD.mk 0 0 ([] : LB) []), false, x10.2.2)
def o6 (j5 : PRdI → Option (PD × Bool × PRdI)) (go : (PRdI × List PD) → Option (PD × Bool × PRdI)) (v : PRdI × List PD) : Option (PD × Bool × PRdI) :=
 match v with
 | (r5, items6) => G9 j5 go r5 items6
def u9 (x3 : PRdI) (go6 : Int → Option (PD × Bool × PRdI)) (i5 : Int) : Option (PD × Bool × PRdI) :=
 if i5 < (x3.src.length : Int) then
  bnd (nth x3.src i5) fun x7 =>
  if (x7.toNat : Int) = 34 then
   chk (I64 (i5 + 1)) <|
   chk (0 ≤ (x3.pos + 1) ∧ (x3.pos + 1) ≤ i5 ∧ i5 ≤ x3.src.length) <|
   chk (0 ≤ (x3.pos + 1) ∧ (x3.pos + 1) ≤ i5 ∧ i5 ≤ x3.src.length) <|
   bnd (Q0 ((x3.src.take i5.toNat).drop (x3.pos + 1).toNat)) fun x8 =>
   some ((PD.mk 4 0 ((x3.src.take i5.toNat).drop (x3.pos + 1).toNat) []), x8, (PRdI.mk x3.src (i5 + 1) (x3.nodes + 1)))
  else
   chk (I64 (i5 + 1)) <|
   go6 (i5 + 1)
 else
  some ((PD.mk 0 0 ([] : LB) []), false, (PRdI.mk x3.src x3.pos (x3.nodes + 1)))
def K0 (x3 : PRdI) (go : Int → Option (PD × Bool × PRdI)) (v : Int) : Option (PD × Bool × PRdI) :=
 match v with
 | i5 => u9 x3 go i5
def A5 (x3 : PRdI) (r5 : PRdI) (go6 : PRdI → Option (PD × Bool × PRdI)) (x7 : Bool) : Option (PD × Bool × PRdI) :=
 if x7 = true then
  chk (I64 (r5.pos + 1)) <|
  go6 (PRdI.mk r5.src (r5.pos + 1) r5.nodes)
 else
  chk (0 ≤ x3.pos ∧ x3.pos ≤ r5.pos ∧ r5.pos ≤ r5.src.length) <|
  bnd (kC ((r5.src.take r5.pos.toNat).drop x3.pos.toNat)) fun x8 =>
  some (x8.1, x8.2, r5)
def v6 (x3 : PRdI) (go6 : PRdI → Option (PD × Bool × PRdI)) (r5 : PRdI) : Option (PD × Bool × PRdI) :=
 if r5.pos < (r5.src.length : Int) then
  bnd (nth r5.src r5.pos) fun x7 =>
  bnd (iL (x7.toNat : Int)) fun x8 =>
  A5 x3 r5 go6 (!x8)
 else
  A5 x3 r5 go6 false
def K1 (x3 : PRdI) (go : PRdI → Option (PD × Bool × PRdI)) (v : PRdI) : Option (PD × Bool × PRdI) :=
 match v with
 | r5 => v6 x3 go r5
def j9 (j5 : PRdI → Option (PD × Bool × PRdI)) (r : PRdI) : Option (PD × Bool × PRdI) :=
 bnd (M0 r) fun x3 =>
 chk (I64 (x3.nodes + 1)) <|
 if x3.pos ≥ (x3.src.length : Int) then
  some ((PD.mk 0 0 ([] : LB) []), false, (PRdI.mk x3.src x3.pos (x3.nodes + 1)))
 else
  if (x3.nodes + 1) > 600 then
   some ((PD.mk 0 0 ([] : LB) []), false, (PRdI.mk x3.src x3.pos (x3.nodes + 1)))
  else
   bnd (nth x3.src x3.pos) fun x4 =>
   if (x4.toNat : Int) = 40 then
    chk (I64 (x3.pos + 1)) <|
    itr (o6 j5) LF ((PRdI.mk x3.src (x3.pos + 1) (x3.nodes + 1)), [])
   else
    if (x4.toNat : Int) = 41 then
     some ((PD.mk 0 0 ([] : LB) []), false, (PRdI.mk x3.src x3.pos (x3.nodes + 1)))
    else
     if (x4.toNat : Int) = 39 then
      chk (I64 (x3.pos + 1)) <|
      chk (I64 ((x3.nodes + 1) + 1)) <|
      bnd (j5 (PRdI.mk x3.src (x3.pos + 1) ((x3.nodes + 1) + 1))) fun x5 =>
      if x5.2.1 = true then
       some ((PD.mk 0 0 ([] : LB) ([(PD.mk 1 0 ([113, 117, 111, 116, 101] : LB) []), x5.1] : List PD)), true, x5.2.2)
      else
       some ((PD.mk 0 0 ([] : LB) []), false, x5.2.2)
     else
      if (x4.toNat : Int) = 34 then
       chk (I64 (x3.pos + 1)) <|
       itr (K0 x3) LF (x3.pos + 1)
      else
       itr (K1 x3) LF (PRdI.mk x3.src x3.pos (x3.nodes + 1))
def j5 : Nat → PRdI → Option (PD × Bool × PRdI)
 | 0, _ => none
 | n + 1, r => j9 (j5 n) r
def L5 (list : List PD) (go4 : (Int × Int) → Option Bool) (x2 : Int) (nodes3 : Int) : Option Bool :=
 if x2 < (list.length : Int) then
  bnd (nth list x2) fun x5 =>
  bnd (v8 RF x5 1 nodes3) fun x6 =>
  if x6.1 = true then
   chk (I64 (x2 + 1)) <|
   go4 ((x2 + 1), x6.2)
  else
   some false
 else
  some true
def iI (list : List PD) (go : (Int × Int) → Option Bool) (v : Int × Int) : Option Bool :=
 match v with
 | (x2, nodes3) => L5 list go x2 nodes3
def iG (list : List PD) : Option Bool :=
 itr (iI list) LF (0, 0)
def P8 (source : LB) (go4 : (PRdI × List PD) → Option (List PD × Bool)) (r2 : PRdI) (out3 : List PD) : Option (List PD × Bool) :=
 bnd (M0 r2) fun x5 =>
 if x5.pos ≥ (source.length : Int) then
  bnd (iG out3) fun x6 =>
  if x6 = true then
   some (out3, true)
  else
   some ([], false)
 else
  bnd (j5 RF x5) fun x6 =>
  if x6.2.1 = true then
   chk ((out3.length + ([x6.1] : List PD).length) * 56 ≤ 140737488355328) <|
   go4 (x6.2.2, (out3 ++ ([x6.1] : List PD)))
  else
   some ([], false)
def Z1 (source : LB) (go : (PRdI × List PD) → Option (List PD × Bool)) (v : PRdI × List PD) : Option (List PD × Bool) :=
 match v with
 | (r2, out3) => P8 source go r2 out3
def bY (source : LB) : Option (List PD × Bool) :=
 if (source.length : Int) > 15000 then
  some ([], false)
 else
  itr (Z1 source) LF ((PRdI.mk source 0 0), [])
def N9 (s : LB) (x2 : LB × LB × Bool) (go4 : Int → Option (PInstr × Bool)) (op3 : Int) : Option (PInstr × Bool) :=
 if op3 ≤ 20 then
  bnd (W2 op3) fun x5 =>
  if x5 = x2.1 then
   if op3 = 1 then
    bnd (bY x2.2.1) fun x6 =>
    if x6.2 = true then
     if (x6.1.length : Int) = 1 then
      bnd (nth x6.1 0) fun x7 =>
      bnd (A8 (PInstr.mk op3 0 x7)) fun x8 =>
      if x8 = s then
       some ((PInstr.mk op3 0 x7), true)
      else
       some ((PInstr.mk 0 0 (PD.mk 0 0 ([] : LB) [])), false)
     else
      some ((PInstr.mk 0 0 (PD.mk 0 0 ([] : LB) [])), false)
    else
     some ((PInstr.mk 0 0 (PD.mk 0 0 ([] : LB) [])), false)
   else
    bnd (L8 x2.2.1) fun x6 =>
    bnd (A8 (PInstr.mk op3 x6.1 (PD.mk 0 0 ([] : LB) []))) fun x7 =>
    if x7 = s then
     some ((PInstr.mk op3 x6.1 (PD.mk 0 0 ([] : LB) [])), true)
    else
     some ((PInstr.mk 0 0 (PD.mk 0 0 ([] : LB) [])), false)
  else
   chk (I64 (op3 + 1)) <|
   go4 (op3 + 1)
 else
  some ((PInstr.mk 0 0 (PD.mk 0 0 ([] : LB) [])), false)
def W3 (s : LB) (x2 : LB × LB × Bool) (go : Int → Option (PInstr × Bool)) (v : Int) : Option (PInstr × Bool) :=
 match v with
 | op3 => N9 s x2 go op3
def Z8 (s : LB) : Option (PInstr × Bool) :=
 bnd (x_Cut s ([32] : LB)) fun x2 =>
 itr (W3 s x2) LF 1
end Go.Abs

namespace Go.Abs
set_option linter.unusedVariables false
def D3 : Option (List (LB)) :=
 some ([([43] : LB), ([45] : LB), ([42] : LB), ([61] : LB), ([60] : LB), ([99, 111, 110, 115] : LB), ([99, 97, 114] : LB), ([99, 100, 114] : LB), ([110, 117, 108, 108, 63] : LB), ([112, 97, 105, 114, 63] : LB), ([110, 117, 109, 98, 101, 114, 63] : LB), ([101, 113, 63] : LB), ([110, 111, 116] : LB), ([100, 105, 115, 112, 108, 97, 121] : LB)] : List (LB))
def O4 (m : PImage) (k : Int) (x_1 : PInstr) (x5 : Bool) : Option Bool :=
 if x5 = true then
  if x_1.a < k then
   bnd (nth m.codes x_1.a) fun x6 =>
   some (decide (x6.params = 0))
  else
   some false
 else
  if x_1.op = 19 then
   if x_1.a < k then
    bnd (nth m.codes x_1.a) fun x6 =>
    some (decide (x6.params = 1))
   else
    some false
  else
   if x_1.op = 12 then
    some (decide (x_1.a ≤ 8))
   else
    if x_1.op = 13 then
     some (decide (x_1.a ≤ 8))
    else
     some true
def cD (m : PImage) (c : PCode) (k : Int) (x_1 : PInstr) : Option Bool :=
 if x_1.op = 2 then
  bnd (D3) fun x5 =>
  some (decide (x_1.a < (x5.length : Int)))
 else
  if x_1.op = 3 then
   some (decide (x_1.a < c.slots))
  else
   if x_1.op = 5 then
    some (decide (x_1.a < c.slots))
   else
    if x_1.op = 7 then
     some (decide (x_1.a < c.slots))
    else
     if x_1.op = 9 then
      if x_1.a ≥ c.params then
       some (decide (x_1.a < c.slots))
      else
       some false
     else
      if x_1.op = 10 then
       some (decide (x_1.a < c.params))
      else
       if x_1.op = 4 then
        some (decide (x_1.a < c.captures))
       else
        if x_1.op = 6 then
         some (decide (x_1.a < c.captures))
        else
         if x_1.op = 8 then
          some (decide (x_1.a < c.captures))
         else
          if x_1.op = 11 then
           some (decide (x_1.a < k))
          else
           if x_1.op = 18 then
            O4 m k x_1 true
           else
            O4 m k x_1 (decide (x_1.op = 20))
def P9 (m : PImage) (k : Int) (x3 : PCode) (go5 : Int → Option Bool) (x4 : Int) : Option Bool :=
 if x4 < (x3.instrs.length : Int) then
  bnd (nth x3.instrs x4) fun x6 =>
  bnd (eR x6) fun x7 =>
  if x7 = true then
   bnd (cD m x3 k x6) fun x8 =>
   if x8 = true then
    chk (I64 (x4 + 1)) <|
    go5 (x4 + 1)
   else
    some false
  else
   some false
 else
  some true
def lK (m : PImage) (k : Int) (x3 : PCode) (go : Int → Option Bool) (v : Int) : Option Bool :=
 match v with
 | x4 => P9 m k x3 go x4
def mZ (m : PImage) (k : Int) : Option Bool :=
 bnd (nth m.codes k) fun x3 =>
 if x3.params < 0 then
  some false
 else
  if x3.params > 8 then
   some false
  else
   if x3.slots < x3.params then
    some false
   else
    if x3.slots > 500 then
     some false
    else
     if x3.captures < 0 then
      some false
     else
      if x3.captures > 500 then
       some false
      else
       if (x3.instrs.length : Int) < 1 then
        some false
       else
        if (x3.instrs.length : Int) > 4000 then
         some false
        else
         itr (lK m k x3) LF 0
def nA (m : PImage) (x_1 : PInstr) : Option (Int × Int) :=
 if x_1.op = 1 then
  some (0, 1)
 else
  if x_1.op = 2 then
   some (0, 1)
  else
   if x_1.op = 3 then
    some (0, 1)
   else
    if x_1.op = 4 then
     some (0, 1)
    else
     if x_1.op = 5 then
      some (0, 1)
     else
      if x_1.op = 6 then
       some (0, 1)
      else
       if x_1.op = 7 then
        some (1, 1)
       else
        if x_1.op = 8 then
         some (1, 1)
        else
         if x_1.op = 11 then
          bnd (nth m.codes x_1.a) fun x3 =>
          some (x3.captures, 1)
         else
          if x_1.op = 18 then
           bnd (nth m.codes x_1.a) fun x3 =>
           some (x3.captures, 1)
          else
           if x_1.op = 19 then
            bnd (nth m.codes x_1.a) fun x3 =>
            some (x3.captures, 1)
           else
            if x_1.op = 20 then
             bnd (nth m.codes x_1.a) fun x3 =>
             some (x3.captures, 1)
            else
             if x_1.op = 12 then
              chk (I64 (x_1.a + 1)) <|
              some ((x_1.a + 1), 1)
             else
              if x_1.op = 13 then
               chk (I64 (x_1.a + 1)) <|
               some ((x_1.a + 1), 0)
              else
               if x_1.op = 14 then
                some (1, 0)
               else
                if x_1.op = 17 then
                 some (1, 0)
                else
                 if x_1.op = 16 then
                  some (1, 0)
                 else
                  some (0, 0)
def E7 (x8 : Int) (go10 : (Int × LI) → Option (LI × Bool)) (out11 : LI) : Option (LI × Bool) :=
 chk (I64 (x8 + 1)) <|
 go10 ((x8 + 1), out11)
def G8 (x13 : Int × Int) (x15 : Int) (x17 : Int) (out18 : LI) (go19 : (Int × LI) → Option (LI × Bool)) (x20 : Int) (x21 : Bool) : Option (LI × Bool) :=
 if x21 = true then
  some ([], false)
 else
  bnd (nth out18 x20) fun x22 =>
  chk (I64 (x17 + 1)) <|
  go19 ((x17 + 1), (out18.set x20.toNat ((x15 - x13.1) + x13.2)))
def I9 (x3 : PCode) (x8 : Int) (go10 : (Int × LI) → Option (LI × Bool)) (x13 : Int × Int) (x15 : Int) (next16 : LI) (go19 : (Int × LI) → Option (LI × Bool)) (x17 : Int) (out18 : LI) : Option (LI × Bool) :=
 if x17 < (next16.length : Int) then
  bnd (nth next16 x17) fun x20 =>
  if x20 ≤ x8 then
   G8 x13 x15 x17 out18 go19 x20 true
  else
   if x20 ≥ (x3.instrs.length : Int) then
    G8 x13 x15 x17 out18 go19 x20 true
   else
    bnd (nth out18 x20) fun x21 =>
    if x21 ≥ 0 then
     bnd (nth out18 x20) fun x22 =>
     G8 x13 x15 x17 out18 go19 x20 (!decide (x22 = ((x15 - x13.1) + x13.2)))
    else
     G8 x13 x15 x17 out18 go19 x20 false
 else
  E7 x8 go10 out18
def bF (x3 : PCode) (x8 : Int) (go10 : (Int × LI) → Option (LI × Bool)) (x13 : Int × Int) (x15 : Int) (next16 : LI) (go : (Int × LI) → Option (LI × Bool)) (v : Int × LI) : Option (LI × Bool) :=
 match v with
 | (x17, out18) => I9 x3 x8 go10 x13 x15 next16 go x17 out18
def C5 (x3 : PCode) (x8 : Int) (out9 : LI) (go10 : (Int × LI) → Option (LI × Bool)) (x13 : Int × Int) (x15 : Int) (next16 : LI) : Option (LI × Bool) :=
 itr (bF x3 x8 go10 x13 x15 next16) LF (0, out9)
def R3 (x3 : PCode) (x8 : Int) (out9 : LI) (go10 : (Int × LI) → Option (LI × Bool)) (x11 : PInstr) (x13 : Int × Int) (x15 : Int) (x16 : Bool) : Option (LI × Bool) :=
 if x16 = true then
  if ((x15 - x13.1) + x13.2) = 0 then
   C5 x3 x8 out9 go10 x13 x15 []
  else
   some ([], false)
 else
  if x11.op = 15 then
   C5 x3 x8 out9 go10 x13 x15 ([x11.a] : LI)
  else
   if x11.op = 16 then
    chk (I64 (x8 + 1)) <|
    C5 x3 x8 out9 go10 x13 x15 ([(x8 + 1), x11.a] : LI)
   else
    chk (I64 (x8 + 1)) <|
    C5 x3 x8 out9 go10 x13 x15 ([(x8 + 1)] : LI)
def I8 (m : PImage) (x3 : PCode) (go10 : (Int × LI) → Option (LI × Bool)) (x8 : Int) (out9 : LI) : Option (LI × Bool) :=
 if x8 < (x3.instrs.length : Int) then
  bnd (nth x3.instrs x8) fun x11 =>
  bnd (nth out9 x8) fun x12 =>
  if x12 < 0 then
   E7 x8 go10 out9
  else
   bnd (nA m x11) fun x13 =>
   bnd (nth out9 x8) fun x14 =>
   if x13.1 > x14 then
    some ([], false)
   else
    bnd (nth out9 x8) fun x15 =>
    chk (I64 (x15 - x13.1)) <|
    chk (I64 ((x15 - x13.1) + x13.2)) <|
    if ((x15 - x13.1) + x13.2) > 500 then
     some ([], false)
    else
     if x11.op = 14 then
      R3 x3 x8 out9 go10 x11 x13 x15 true
     else
      R3 x3 x8 out9 go10 x11 x13 x15 (decide (x11.op = 13))
 else
  some (out9, true)
def bE (m : PImage) (x3 : PCode) (go : (Int × LI) → Option (LI × Bool)) (v : Int × LI) : Option (LI × Bool) :=
 match v with
 | (x8, out9) => I8 m x3 go x8 out9
def I7 (m : PImage) (x3 : PCode) (go6 : (Int × LI) → Option (LI × Bool)) (x4 : Int) (out5 : LI) : Option (LI × Bool) :=
 if x4 < ((List.replicate (x3.instrs.length : Int).toNat (0 : Int)).length : Int) then
  bnd (nth out5 x4) fun x7 =>
  chk (I64 (x4 + 1)) <|
  go6 ((x4 + 1), (out5.set x4.toNat (-1)))
 else
  bnd (nth out5 0) fun x7 =>
  itr (bE m x3) LF (0, (out5.set (0 : Int).toNat 0))
def fS (m : PImage) (x3 : PCode) (go : (Int × LI) → Option (LI × Bool)) (v : Int × LI) : Option (LI × Bool) :=
 match v with
 | (x4, out5) => I7 m x3 go x4 out5
def eQ (m : PImage) (code : Int) : Option (LI × Bool) :=
 bnd (nth m.codes code) fun x3 =>
 chk (0 ≤ (x3.instrs.length : Int) ∧ (8 : Nat) * (x3.instrs.length : Int) ≤ 281474976710656 ∧ (x3.instrs.length : Int) ≤ 281474976710656) <|
 itr (fS m x3) LF (0, (List.replicate (x3.instrs.length : Int).toNat (0 : Int)))
def cC (op : Int) : Option Bool :=
 if op = 11 then
  some true
 else
  if op = 18 then
   some true
  else
   if op = 19 then
    some true
   else
    some (decide (op = 20))
def U6 (x12 : Int) (go14 : (Int × LI) → Option Bool) (named15 : LI) : Option Bool :=
 chk (I64 (x12 + 1)) <|
 go14 ((x12 + 1), named15)
def L6 (total5 : Int) (x6 : Int) (go8 : (Int × Int × LI) → Option Bool) (x9 : PCode) (go14 : (Int × LI) → Option Bool) (x12 : Int) (named13 : LI) : Option Bool :=
 if x12 < (x9.instrs.length : Int) then
  bnd (nth x9.instrs x12) fun x15 =>
  bnd (cC x15.op) fun x16 =>
  if x16 = true then
   bnd (nth named13 x15.a) fun x17 =>
   chk (I64 (x17 + 1)) <|
   bnd (nth named13 x15.a) fun x18 =>
   U6 x12 go14 (named13.set x15.a.toNat (x17 + 1))
  else
   U6 x12 go14 named13
 else
  chk (I64 (x6 + 1)) <|
  go8 ((total5 + (x9.instrs.length : Int)), (x6 + 1), named13)
def dI (total5 : Int) (x6 : Int) (go8 : (Int × Int × LI) → Option Bool) (x9 : PCode) (go : (Int × LI) → Option Bool) (v : Int × LI) : Option Bool :=
 match v with
 | (x12, named13) => L6 total5 x6 go8 x9 go x12 named13
def L7 (m : PImage) (total5 : Int) (named7 : LI) (go10 : Int → Option Bool) (x9 : Int) : Option Bool :=
 if x9 < ((named7.take ((m.codes.length : Int) - 1).toNat).length : Int) then
  bnd (nth (named7.take ((m.codes.length : Int) - 1).toNat) x9) fun x11 =>
  if x11 = 1 then
   chk (I64 (x9 + 1)) <|
   go10 (x9 + 1)
  else
   some false
 else
  some (decide (total5 ≤ 16000))
def dJ (m : PImage) (total5 : Int) (named7 : LI) (go : Int → Option Bool) (v : Int) : Option Bool :=
 match v with
 | x9 => L7 m total5 named7 go x9
def W1 (m : PImage) (go8 : (Int × Int × LI) → Option Bool) (total5 : Int) (x6 : Int) (named7 : LI) : Option Bool :=
 if x6 < (m.codes.length : Int) then
  bnd (nth m.codes x6) fun x9 =>
  bnd (mZ m x6) fun x10 =>
  if x10 = true then
   bnd (eQ m x6) fun x11 =>
   if x11.2 = true then
    chk (I64 (total5 + (x9.instrs.length : Int))) <|
    itr (dI total5 x6 go8 x9) LF (0, named7)
   else
    some false
  else
   some false
 else
  chk (I64 ((m.codes.length : Int) - 1)) <|
  chk (0 ≤ ((m.codes.length : Int) - 1) ∧ ((m.codes.length : Int) - 1) ≤ named7.length) <|
  itr (dJ m total5 named7) LF 0
def iK (m : PImage) (go : (Int × Int × LI) → Option Bool) (v : Int × Int × LI) : Option Bool :=
 match v with
 | (total5, x6, named7) => W1 m go total5 x6 named7
def iJ (m : PImage) (captures : Int) : Option Bool :=
 if (m.codes.length : Int) < 1 then
  some false
 else
  if (m.codes.length : Int) > 1500 then
   some false
  else
   chk (I64 ((m.codes.length : Int) - 1)) <|
   if m.main = ((m.codes.length : Int) - 1) then
    chk (I64 ((m.codes.length : Int) - 1)) <|
    bnd (nth m.codes ((m.codes.length : Int) - 1)) fun x3 =>
    if x3.params = 0 then
     chk (I64 ((m.codes.length : Int) - 1)) <|
     bnd (nth m.codes ((m.codes.length : Int) - 1)) fun x4 =>
     if x4.captures = captures then
      chk (0 ≤ (m.codes.length : Int) ∧ (8 : Nat) * (m.codes.length : Int) ≤ 281474976710656 ∧ (m.codes.length : Int) ≤ 281474976710656) <|
      itr (iK m) LF (0, 0, (List.replicate (m.codes.length : Int).toNat (0 : Int)))
     else
      some false
    else
     some false
   else
    some false
def aS (x2 : Int) (go4 : (Int × List (LB)) → Option (List (LB))) (x5 : PCode) (go11 : (Int × List (LB)) → Option (List (LB))) (x9 : Int) (out10 : List (LB)) : Option (List (LB)) :=
 if x9 < (x5.instrs.length : Int) then
  bnd (nth x5.instrs x9) fun x12 =>
  bnd (A8 x12) fun x13 =>
  chk ((out10.length + ([x13] : List (LB)).length) * 16 ≤ 140737488355328) <|
  chk (I64 (x9 + 1)) <|
  go11 ((x9 + 1), (out10 ++ ([x13] : List (LB))))
 else
  chk (I64 (x2 + 1)) <|
  go4 ((x2 + 1), out10)
def cA (x2 : Int) (go4 : (Int × List (LB)) → Option (List (LB))) (x5 : PCode) (go : (Int × List (LB)) → Option (List (LB))) (v : Int × List (LB)) : Option (List (LB)) :=
 match v with
 | (x9, out10) => aS x2 go4 x5 go x9 out10
def aQ (m : PImage) (go4 : (Int × List (LB)) → Option (List (LB))) (x2 : Int) (out3 : List (LB)) : Option (List (LB)) :=
 if x2 < (m.codes.length : Int) then
  bnd (nth m.codes x2) fun x5 =>
  bnd (w7 x5.params) fun x6 =>
  chk (([99, 111, 100, 101, 32] : LB).length + x6.length ≤ 9223372036854775807) <|
  chk ((([99, 111, 100, 101, 32] : LB) ++ x6).length + ([32] : LB).length ≤ 9223372036854775807) <|
  bnd (w7 x5.slots) fun x7 =>
  chk (((([99, 111, 100, 101, 32] : LB) ++ x6) ++ ([32] : LB)).length + x7.length ≤ 9223372036854775807) <|
  chk ((((([99, 111, 100, 101, 32] : LB) ++ x6) ++ ([32] : LB)) ++ x7).length + ([32] : LB).length ≤ 9223372036854775807) <|
  bnd (w7 x5.captures) fun x8 =>
  chk (((((([99, 111, 100, 101, 32] : LB) ++ x6) ++ ([32] : LB)) ++ x7) ++ ([32] : LB)).length + x8.length ≤ 9223372036854775807) <|
  chk ((out3.length + ([(((((([99, 111, 100, 101, 32] : LB) ++ x6) ++ ([32] : LB)) ++ x7) ++ ([32] : LB)) ++ x8)] : List (LB)).length) * 16 ≤ 140737488355328) <|
  itr (cA x2 go4 x5) LF (0, (out3 ++ ([(((((([99, 111, 100, 101, 32] : LB) ++ x6) ++ ([32] : LB)) ++ x7) ++ ([32] : LB)) ++ x8)] : List (LB))))
 else
  some out3
def bZ (m : PImage) (go : (Int × List (LB)) → Option (List (LB))) (v : Int × List (LB)) : Option (List (LB)) :=
 match v with
 | (x2, out3) => aQ m go x2 out3
def U8 (m : PImage) : Option (List (LB)) :=
 itr (bZ m) LF (0, [])
def R1 (m : PImage) : Option (List (LB)) :=
 if (m.codes.length : Int) = 0 then
  some []
 else
  chk (I64 ((m.codes.length : Int) - 1)) <|
  bnd (nth m.codes ((m.codes.length : Int) - 1)) fun x2 =>
  bnd (iJ m x2.captures) fun x3 =>
  if x3 = true then
   bnd (U8 m) fun x4 =>
   some x4
  else
   some []
def F7 (x3 : List (LB)) (go7 : (Int × LI) → Option (LI × Bool)) (x5 : Int) (out6 : LI) : Option (LI × Bool) :=
 if x5 < ((x3.drop (1 : Int).toNat).length : Int) then
  bnd (nth (x3.drop (1 : Int).toNat) x5) fun x8 =>
  bnd (L8 x8) fun x9 =>
  if x9.2 = true then
   if x9.1 < 0 then
    some ([], false)
   else
    chk ((out6.length + ([x9.1] : LI).length) * 8 ≤ 140737488355328) <|
    chk (I64 (x5 + 1)) <|
    go7 ((x5 + 1), (out6 ++ ([x9.1] : LI)))
  else
   some ([], false)
 else
  some (out6, true)
def dW (x3 : List (LB)) (go : (Int × LI) → Option (LI × Bool)) (v : Int × LI) : Option (LI × Bool) :=
 match v with
 | (x5, out6) => F7 x3 go x5 out6
def U0 (line : LB) (word : LB) : Option (LI × Bool) :=
 bnd (yL line ([32] : LB)) fun x3 =>
 bnd (nth x3 0) fun x4 =>
 if x4 = word then
  chk (0 ≤ (1 : Int) ∧ (1 : Int) ≤ x3.length) <|
  itr (dW x3) LF (0, [])
 else
  some ([], false)
def cF (a : List (LB)) (b : List (LB)) (go4 : Int → Option Bool) (x3 : Int) : Option Bool :=
 if x3 < (a.length : Int) then
  bnd (nth a x3) fun x5 =>
  bnd (nth b x3) fun x6 =>
  if x5 = x6 then
   chk (I64 (x3 + 1)) <|
   go4 (x3 + 1)
  else
   some false
 else
  some true
def kZ (a : List (LB)) (b : List (LB)) (go : Int → Option Bool) (v : Int) : Option Bool :=
 match v with
 | x3 => cF a b go x3
def X9 (a : List (LB)) (b : List (LB)) : Option Bool :=
 if (a.length : Int) = (b.length : Int) then
  itr (kZ a b) LF 0
 else
  some false
def J8 (x2 : Int) (go4 : (Int × List PCode) → Option (PImage × Bool)) (x5 : List PCode) : Option (PImage × Bool) :=
 chk (I64 (x2 + 1)) <|
 go4 ((x2 + 1), x5)
def J9 (x2 : Int) (x3 : List PCode) (go4 : (Int × List PCode) → Option (PImage × Bool)) (x5 : LB) (x6 : LI × Bool) (x7 : Bool) : Option (PImage × Bool) :=
 if x7 = true then
  bnd (nth x6.1 0) fun x8 =>
  bnd (nth x6.1 1) fun x9 =>
  bnd (nth x6.1 2) fun x10 =>
  chk ((x3.length + ([(PCode.mk x8 x9 x10 [])] : List PCode).length) * 48 ≤ 140737488355328) <|
  J8 x2 go4 (x3 ++ ([(PCode.mk x8 x9 x10 [])] : List PCode))
 else
  bnd (Z8 x5) fun x8 =>
  if x8.2 = true then
   if (x3.length : Int) = 0 then
    some ((PImage.mk [] 0), false)
   else
    chk (I64 ((x3.length : Int) - 1)) <|
    bnd (nth x3 ((x3.length : Int) - 1)) fun x9 =>
    chk ((x9.instrs.length + ([x8.1] : List PInstr).length) * 72 ≤ 140737488355328) <|
    J8 x2 go4 (x3.set ((x3.length : Int) - 1).toNat (PCode.mk x9.params x9.slots x9.captures (x9.instrs ++ ([x8.1] : List PInstr))))
  else
   some ((PImage.mk [] 0), false)
def D2 (lines : List (LB)) (go4 : (Int × List PCode) → Option (PImage × Bool)) (x2 : Int) (x3 : List PCode) : Option (PImage × Bool) :=
 if x2 < (lines.length : Int) then
  bnd (nth lines x2) fun x5 =>
  bnd (U0 x5 ([99, 111, 100, 101] : LB)) fun x6 =>
  if x6.2 = true then
   J9 x2 x3 go4 x5 x6 (decide ((x6.1.length : Int) = 3))
  else
   J9 x2 x3 go4 x5 x6 false
 else
  chk (I64 ((x3.length : Int) - 1)) <|
  if (lines.length : Int) = 0 then
   some ((PImage.mk [] 0), false)
  else
   bnd (R1 (PImage.mk x3 ((x3.length : Int) - 1))) fun x5 =>
   bnd (X9 x5 lines) fun x6 =>
   if x6 = true then
    some ((PImage.mk x3 ((x3.length : Int) - 1)), true)
   else
    some ((PImage.mk [] 0), false)
def s6 (lines : List (LB)) (go : (Int × List PCode) → Option (PImage × Bool)) (v : Int × List PCode) : Option (PImage × Bool) :=
 match v with
 | (x2, x3) => D2 lines go x2 x3
def U7 (lines : List (LB)) : Option (PImage × Bool) :=
 itr (s6 lines) LF (0, [])
end Go.Abs

namespace Go.Abs
set_option linter.unusedVariables false
def B7 (out2 : LB) (x3 : Int) (go4 : (LB × Int) → Option (LB)) (d5 : Int) : Option (LB) :=
 chk (I64 (48 + d5)) <|
 chk (0 ≤ (48 + d5) ∧ (48 + d5) ≤ 255) <|
 chk (([(UInt8.ofNat (48 + d5).toNat)] : LB).length + out2.length ≤ 9223372036854775807) <|
 chk (I64 x3 ∧ (0 : Int) < 10) <|
 go4 ((([(UInt8.ofNat (48 + d5).toNat)] : LB) ++ out2), (Int.tdiv x3 10))
def I0 (x_1 : Int) (go4 : (LB × Int) → Option (LB)) (out2 : LB) (x3 : Int) : Option (LB) :=
 if x3 = 0 then
  if x_1 < 0 then
   chk (([45] : LB).length + out2.length ≤ 9223372036854775807) <|
   some (([45] : LB) ++ out2)
  else
   some out2
 else
  chk (I64 x3 ∧ (0 : Int) < 10) <|
  if (Int.tmod x3 10) < 0 then
   chk (I64 (-(Int.tmod x3 10))) <|
   B7 out2 x3 go4 (-(Int.tmod x3 10))
  else
   B7 out2 x3 go4 (Int.tmod x3 10)
def Y3 (x_1 : Int) (go : (LB × Int) → Option (LB)) (v : LB × Int) : Option (LB) :=
 match v with
 | (out2, x3) => I0 x_1 go out2 x3
def w8 (x_1 : Int) : Option (LB) :=
 if x_1 = 0 then
  some ([48] : LB)
 else
  itr (Y3 x_1) LF (([] : LB), x_1)
def U3 (x4 : Int) (go5 : (LB × Int) → Option (LB)) (x6 : LB) (out7 : LB) : Option (LB) :=
 chk (out7.length + x6.length ≤ 9223372036854775807) <|
 chk (I64 (x4 + 1)) <|
 go5 ((out7 ++ x6), (x4 + 1))
def aK (list : List (LB)) (x_1 : LB) (go5 : (LB × Int) → Option (LB)) (out3 : LB) (x4 : Int) : Option (LB) :=
 if x4 < (list.length : Int) then
  bnd (nth list x4) fun x6 =>
  if x4 > 0 then
   chk (out3.length + x_1.length ≤ 9223372036854775807) <|
   U3 x4 go5 x6 (out3 ++ x_1)
  else
   U3 x4 go5 x6 out3
 else
  some out3
def lX (list : List (LB)) (x_1 : LB) (go : (LB × Int) → Option (LB)) (v : LB × Int) : Option (LB) :=
 match v with
 | (out3, x4) => aK list x_1 go out3 x4
def nV (list : List (LB)) (x_1 : LB) : Option (LB) :=
 itr (lX list x_1) LF (([] : LB), 0)
def S7 (u5 : PD → Option (LB)) (d : PD) (go5 : (Int × List (LB)) → Option (LB)) (x3 : Int) (parts4 : List (LB)) : Option (LB) :=
 if x3 < (d.items.length : Int) then
  bnd (nth d.items x3) fun x6 =>
  bnd (u5 x6) fun x7 =>
  chk ((parts4.length + ([x7] : List (LB)).length) * 16 ≤ 140737488355328) <|
  chk (I64 (x3 + 1)) <|
  go5 ((x3 + 1), (parts4 ++ ([x7] : List (LB))))
 else
  bnd (nV parts4 ([32] : LB)) fun x6 =>
  chk (([40] : LB).length + x6.length ≤ 9223372036854775807) <|
  chk ((([40] : LB) ++ x6).length + ([41] : LB).length ≤ 9223372036854775807) <|
  some ((([40] : LB) ++ x6) ++ ([41] : LB))
def gL (u5 : PD → Option (LB)) (d : PD) (go : (Int × List (LB)) → Option (LB)) (v : Int × List (LB)) : Option (LB) :=
 match v with
 | (x3, parts4) => S7 u5 d go x3 parts4
def aJ (u5 : PD → Option (LB)) (d : PD) : Option (LB) :=
 if d.kind = 1 then
  some d.text
 else
  if d.kind = 2 then
   bnd (w8 d.number) fun x3 =>
   some x3
  else
   if d.kind = 3 then
    bnd (nth ([([35, 102] : LB), ([35, 116] : LB)] : List (LB)) d.number) fun x3 =>
    some x3
   else
    if d.kind = 4 then
     chk (([34] : LB).length + d.text.length ≤ 9223372036854775807) <|
     chk ((([34] : LB) ++ d.text).length + ([34] : LB).length ≤ 9223372036854775807) <|
     some ((([34] : LB) ++ d.text) ++ ([34] : LB))
    else
     itr (gL u5 d) LF (0, ([] : List (LB)))
def u5 : Nat → PD → Option (LB)
 | 0, _ => none
 | n + 1, d => aJ (u5 n) d
def X0 (x_1 : Int) (a : Int) (b : Int) : Option Bool :=
 if x_1 ≥ a then
  some (decide (x_1 ≤ b))
 else
  some false
def dP (op : Int) : Option (LB) :=
 bnd (X0 op 1 20) fun x2 =>
 if x2 = true then
  chk (I64 (op - 1)) <|
  bnd (nth ([([99, 111, 110, 115, 116, 97, 110, 116] : LB), ([112, 114, 105, 109, 105, 116, 105, 118, 101] : LB), ([108, 111, 99, 97, 108] : LB), ([99, 97, 112, 116, 117, 114, 101, 100] : LB), ([114, 101, 97, 100, 45, 108, 111, 99, 97, 108] : LB), ([114, 101, 97, 100, 45, 98, 111, 120] : LB), ([119, 114, 105, 116, 101, 45, 108, 111, 99, 97, 108] : LB), ([119, 114, 105, 116, 101, 45, 98, 111, 120] : LB), ([110, 101, 119, 45, 98, 111, 120] : LB), ([98, 111, 120, 45, 112, 97, 114, 97, 109] : LB), ([99, 108, 111, 115, 117, 114, 101] : LB), ([99, 97, 108, 108] : LB), ([116, 97, 105, 108, 45, 99, 97, 108, 108] : LB), ([114, 101, 116, 117, 114, 110] : LB), ([106, 117, 109, 112] : LB), ([106, 117, 109, 112, 45, 105, 102, 45, 102, 97, 108, 115, 101] : LB), ([112, 111, 112] : LB), ([114, 101, 115, 101, 116] : LB), ([115, 104, 105, 102, 116] : LB), ([101, 110, 116, 101, 114] : LB)] : List (LB)) (op - 1)) fun x3 =>
  some x3
 else
  some ([] : LB)
def bR (op : Int) : Option Bool :=
 if op = 14 then
  some true
 else
  some (decide (op = 17))
def Y6 (B9 : PD → Int → Option (Bool × Int)) (d : PD) (i4 : Int) (left5 : Int) (go6 : (Int × Int) → Option (Bool × Int)) (x7 : Bool) : Option (Bool × Int) :=
 if x7 = true then
  bnd (nth d.items i4) fun x8 =>
  bnd (B9 x8 left5) fun x9 =>
  chk (I64 (i4 + 1)) <|
  go6 ((i4 + 1), x9.2)
 else
  some ((decide (left5 ≥ 0)), left5)
def U2 (B9 : PD → Int → Option (Bool × Int)) (d : PD) (go6 : (Int × Int) → Option (Bool × Int)) (i4 : Int) (left5 : Int) : Option (Bool × Int) :=
 if i4 < (d.items.length : Int) then
  Y6 B9 d i4 left5 go6 (decide (left5 ≥ 0))
 else
  Y6 B9 d i4 left5 go6 false
def pE (B9 : PD → Int → Option (Bool × Int)) (d : PD) (go : (Int × Int) → Option (Bool × Int)) (v : Int × Int) : Option (Bool × Int) :=
 match v with
 | (i4, left5) => U2 B9 d go i4 left5
def jN (B9 : PD → Int → Option (Bool × Int)) (d : PD) (left : Int) : Option (Bool × Int) :=
 chk (I64 (left - 1)) <|
 itr (pE B9 d) LF (0, (left - 1))
def B9 : Nat → PD → Int → Option (Bool × Int)
 | 0, _, _ => none
 | n + 1, d, left => jN (B9 n) d left
def M7 (y9 : PD → Option Int) (d : PD) (go5 : (Int × Int) → Option Int) (x3 : Int) (x4 : Int) : Option Int :=
 if x4 < (d.items.length : Int) then
  bnd (nth d.items x4) fun x6 =>
  bnd (y9 x6) fun x7 =>
  chk (I64 (x4 + 1)) <|
  go5 ((max x3 x7), (x4 + 1))
 else
  chk (I64 (x3 + 1)) <|
  some (x3 + 1)
def jD (y9 : PD → Option Int) (d : PD) (go : (Int × Int) → Option Int) (v : Int × Int) : Option Int :=
 match v with
 | (x3, x4) => M7 y9 d go x3 x4
def cN (y9 : PD → Option Int) (d : PD) : Option Int :=
 itr (jD y9 d) LF (0, 0)
def y9 : Nat → PD → Option Int
 | 0, _ => none
 | n + 1, d => cN (y9 n) d
def W9 (b : Int) : Option Bool :=
 if b ≥ 48 then
  some (decide (b ≤ 57))
 else
  some false
def V5 (b : Int) (go4 : Int → Option Bool) (i3 : Int) : Option Bool :=
 if i3 < (([33, 63, 42, 60, 62, 61, 47, 43, 45, 46, 95] : LB).length : Int) then
  bnd (nth ([33, 63, 42, 60, 62, 61, 47, 43, 45, 46, 95] : LB) i3) fun x5 =>
  if (x5.toNat : Int) = b then
   some true
  else
   chk (I64 (i3 + 1)) <|
   go4 (i3 + 1)
 else
  some false
def lY (b : Int) (go : Int → Option Bool) (v : Int) : Option Bool :=
 match v with
 | i3 => V5 b go i3
def Q1 (b : Int) (x2 : Bool) : Option Bool :=
 if x2 = true then
  some true
 else
  itr (lY b) LF 0
def nW (b : Int) : Option Bool :=
 if b ≥ 97 then
  if b ≤ 122 then
   Q1 b true
  else
   bnd (W9 b) fun x2 =>
   Q1 b x2
 else
  bnd (W9 b) fun x2 =>
  Q1 b x2
def J0 (s : LB) (go4 : Int → Option Bool) (i3 : Int) : Option Bool :=
 if i3 < (s.length : Int) then
  bnd (nth s i3) fun x5 =>
  bnd (nW (x5.toNat : Int)) fun x6 =>
  if x6 = true then
   chk (I64 (i3 + 1)) <|
   go4 (i3 + 1)
  else
   some false
 else
  some true
def gC (s : LB) (go : Int → Option Bool) (v : Int) : Option Bool :=
 match v with
 | i3 => J0 s go i3
def C7 (s : LB) (x2 : Bool) : Option Bool :=
 if x2 = true then
  some false
 else
  itr (gC s) LF 0
def R5 (s : LB) : Option Bool :=
 bnd (X0 (s.length : Int) 1 16) fun x2 =>
 if x2 = true then
  bnd (nth s 0) fun x3 =>
  bnd (W9 (x3.toNat : Int)) fun x4 =>
  if x4 = true then
   C7 s true
  else
   bnd (nth s 0) fun x5 =>
   if (x5.toNat : Int) = 45 then
    if (s.length : Int) > 1 then
     bnd (nth s 1) fun x6 =>
     bnd (W9 (x6.toNat : Int)) fun x7 =>
     C7 s x7
    else
     C7 s false
   else
    C7 s false
 else
  C7 s true
def J3 (s : LB) (go3 : Int → Option Bool) (i2 : Int) : Option Bool :=
 if i2 < (s.length : Int) then
  bnd (nth s i2) fun x4 =>
  if (x4.toNat : Int) < 32 then
   some false
  else
   bnd (nth s i2) fun x5 =>
   if (x5.toNat : Int) > 126 then
    some false
   else
    bnd (nth s i2) fun x6 =>
    if (x6.toNat : Int) = 34 then
     some false
    else
     chk (I64 (i2 + 1)) <|
     go3 (i2 + 1)
 else
  some (decide ((s.length : Int) ≤ 20))
def nY (s : LB) (go : Int → Option Bool) (v : Int) : Option Bool :=
 match v with
 | i2 => J3 s go i2
def R7 (s : LB) : Option Bool :=
 itr (nY s) LF 0
def nX (kind : Int) (number : Int) (text : LB) (items : Int) : Option Bool :=
 if kind = 0 then
  if number = 0 then
   some (decide (text = ([] : LB)))
  else
   some false
 else
  if kind = 1 then
   if number = 0 then
    bnd (R5 text) fun x5 =>
    if x5 = true then
     some (decide (items = 0))
    else
     some false
   else
    some false
  else
   if kind = 2 then
    bnd (X0 number (-999999999) 999999999) fun x5 =>
    if x5 = true then
     if text = ([] : LB) then
      some (decide (items = 0))
     else
      some false
    else
     some false
   else
    if kind = 3 then
     bnd (X0 number 0 1) fun x5 =>
     if x5 = true then
      if text = ([] : LB) then
       some (decide (items = 0))
      else
       some false
     else
      some false
    else
     if kind = 4 then
      if number = 0 then
       bnd (R7 text) fun x5 =>
       if x5 = true then
        some (decide (items = 0))
       else
        some false
      else
       some false
     else
      some false
def N5 (z6 : PD → Option Bool) (d : PD) (go4 : Int → Option Bool) (x3 : Int) : Option Bool :=
 if x3 < (d.items.length : Int) then
  bnd (nth d.items x3) fun x5 =>
  bnd (z6 x5) fun x6 =>
  if x6 = true then
   chk (I64 (x3 + 1)) <|
   go4 (x3 + 1)
  else
   some false
 else
  bnd (nX d.kind d.number d.text (d.items.length : Int)) fun x5 =>
  some x5
def jP (z6 : PD → Option Bool) (d : PD) (go : Int → Option Bool) (v : Int) : Option Bool :=
 match v with
 | x3 => N5 z6 d go x3
def cU (z6 : PD → Option Bool) (d : PD) : Option Bool :=
 itr (jP z6 d) LF 0
def z6 : Nat → PD → Option Bool
 | 0, _ => none
 | n + 1, d => cU (z6 n) d
def eZ (d : PD) : Option Bool :=
 bnd (B9 RF d 600) fun x2 =>
 if x2.1 = true then
  bnd (y9 RF d) fun x3 =>
  if x3 ≤ 20 then
   bnd (z6 RF d) fun x4 =>
   some x4
  else
   some false
 else
  some false
def cO (s5 : PD → PD → Option Bool) (a : PD) (b : PD) (go5 : Int → Option Bool) (x4 : Int) : Option Bool :=
 if x4 < (a.items.length : Int) then
  bnd (nth a.items x4) fun x6 =>
  bnd (nth b.items x4) fun x7 =>
  bnd (s5 x6 x7) fun x8 =>
  if x8 = true then
   chk (I64 (x4 + 1)) <|
   go5 (x4 + 1)
  else
   some false
 else
  some true
def eB (s5 : PD → PD → Option Bool) (a : PD) (b : PD) (go : Int → Option Bool) (v : Int) : Option Bool :=
 match v with
 | x4 => cO s5 a b go x4
def W6 (s5 : PD → PD → Option Bool) (a : PD) (b : PD) : Option Bool :=
 if a.kind = b.kind then
  if a.number = b.number then
   if a.text = b.text then
    if (a.items.length : Int) = (b.items.length : Int) then
     itr (eB s5 a b) LF 0
    else
     some false
   else
    some false
  else
   some false
 else
  some false
def s5 : Nat → PD → PD → Option Bool
 | 0, _, _ => none
 | n + 1, a, b => W6 (s5 n) a b
def bQ (x_1 : PInstr) : Option Bool :=
 bnd (X0 x_1.op 1 20) fun x2 =>
 if x2 = true then
  if x_1.op = 1 then
   if x_1.a = 0 then
    bnd (eZ x_1.d) fun x3 =>
    some x3
   else
    some false
  else
   bnd (s5 RF x_1.d (PD.mk 0 0 ([] : LB) [])) fun x3 =>
   if x3 = true then
    bnd (X0 x_1.a 0 4000) fun x4 =>
    if x4 = true then
     if x_1.a = 0 then
      some true
     else
      bnd (bR x_1.op) fun x5 =>
      some (!x5)
    else
     some false
   else
    some false
 else
  some false
def C6 (x_1 : PInstr) : Option (LB) :=
 bnd (bQ x_1) fun x2 =>
 if x2 = true then
  if x_1.op = 1 then
   bnd (dP x_1.op) fun x3 =>
   chk (x3.length + ([32] : LB).length ≤ 9223372036854775807) <|
   bnd (u5 RF x_1.d) fun x4 =>
   chk ((x3 ++ ([32] : LB)).length + x4.length ≤ 9223372036854775807) <|
   some ((x3 ++ ([32] : LB)) ++ x4)
  else
   bnd (bR x_1.op) fun x3 =>
   if x3 = true then
    bnd (dP x_1.op) fun x4 =>
    some x4
   else
    bnd (dP x_1.op) fun x4 =>
    chk (x4.length + ([32] : LB).length ≤ 9223372036854775807) <|
    bnd (w8 x_1.a) fun x5 =>
    chk ((x4 ++ ([32] : LB)).length + x5.length ≤ 9223372036854775807) <|
    some ((x4 ++ ([32] : LB)) ++ x5)
 else
  some ([] : LB)
def C9 (s : LB) (go3 : Int → Option (LB × LB)) (i2 : Int) : Option (LB × LB) :=
 if i2 < (s.length : Int) then
  bnd (nth s i2) fun x4 =>
  if (x4.toNat : Int) = 32 then
   chk (0 ≤ i2 ∧ i2 ≤ s.length) <|
   chk (I64 (i2 + 1)) <|
   chk (0 ≤ (i2 + 1) ∧ (i2 + 1) ≤ s.length) <|
   some ((s.take i2.toNat), (s.drop (i2 + 1).toNat))
  else
   chk (I64 (i2 + 1)) <|
   go3 (i2 + 1)
 else
  some (s, ([] : LB))
def gI (s : LB) (go : Int → Option (LB × LB)) (v : Int) : Option (LB × LB) :=
 match v with
 | i2 => C9 s go i2
def Y5 (s : LB) : Option (LB × LB) :=
 itr (gI s) LF 0
def K6 (s : LB) (x3 : Int) (go6 : (Int × Int) → Option (Int × Bool)) (x4 : Int) (i5 : Int) : Option (Int × Bool) :=
 if i5 < (s.length : Int) then
  bnd (nth s i5) fun x7 =>
  bnd (W9 (x7.toNat : Int)) fun x8 =>
  if x8 = true then
   chk (I64 (10 * x4)) <|
   bnd (nth s i5) fun x9 =>
   chk (0 ≤ ((x9.toNat : Int) - 48) ∧ ((x9.toNat : Int) - 48) ≤ 255) <|
   chk (I64 ((x9.toNat : Int) - 48)) <|
   chk (I64 ((10 * x4) + ((x9.toNat : Int) - 48))) <|
   chk (I64 (i5 + 1)) <|
   go6 (((10 * x4) + ((x9.toNat : Int) - 48)), (i5 + 1))
  else
   some (0, false)
 else
  if x3 = 1 then
   chk (I64 (-x4)) <|
   bnd (w8 (-x4)) fun x7 =>
   if x7 = s then
    some ((-x4), true)
   else
    some (0, false)
  else
   bnd (w8 x4) fun x7 =>
   if x7 = s then
    some (x4, true)
   else
    some (0, false)
def T8 (s : LB) (x3 : Int) (go : (Int × Int) → Option (Int × Bool)) (v : Int × Int) : Option (Int × Bool) :=
 match v with
 | (x4, i5) => K6 s x3 go x4 i5
def B3 (s : LB) (x3 : Int) : Option (Int × Bool) :=
 if x3 = (s.length : Int) then
  some (0, false)
 else
  chk (I64 ((s.length : Int) - x3)) <|
  if ((s.length : Int) - x3) > 9 then
   some (0, false)
  else
   itr (T8 s x3) LF (0, x3)
def D5 (s : LB) (x2 : Bool) : Option (Int × Bool) :=
 if x2 = true then
  B3 s 1
 else
  B3 s 0
def I1 (s : LB) : Option (Int × Bool) :=
 if (s.length : Int) > 0 then
  bnd (nth s 0) fun x2 =>
  D5 s (decide ((x2.toNat : Int) = 45))
 else
  D5 s false
def fB (b : Int) : Option Bool :=
 if b = 32 then
  some true
 else
  if b = 10 then
   some true
  else
   some (decide (b = 9))
def Q3 (go3 : PRdS → Option PRdS) (r6 : PRdS) (go7 : PRdS → Option PRdS) (x8 : Bool) : Option PRdS :=
 if x8 = true then
  chk (I64 (r6.pos + 1)) <|
  go7 (PRdS.mk r6.src (r6.pos + 1) r6.bad)
 else
  go3 r6
def I4 (go3 : PRdS → Option PRdS) (go7 : PRdS → Option PRdS) (r6 : PRdS) : Option PRdS :=
 if r6.pos < (r6.src.length : Int) then
  bnd (nth r6.src r6.pos) fun x8 =>
  Q3 go3 r6 go7 (!decide ((x8.toNat : Int) = 10))
 else
  Q3 go3 r6 go7 false
def mB (go3 : PRdS → Option PRdS) (go : PRdS → Option PRdS) (v : PRdS) : Option PRdS :=
 match v with
 | r6 => I4 go3 go r6
def G3 (r2 : PRdS) (go3 : PRdS → Option PRdS) (x4 : Bool) : Option PRdS :=
 if x4 = true then
  bnd (nth r2.src r2.pos) fun x5 =>
  if (x5.toNat : Int) = 59 then
   itr (mB go3) LF r2
  else
   chk (I64 (r2.pos + 1)) <|
   go3 (PRdS.mk r2.src (r2.pos + 1) r2.bad)
 else
  some r2
def A7 (go3 : PRdS → Option PRdS) (r2 : PRdS) : Option PRdS :=
 if r2.pos < (r2.src.length : Int) then
  bnd (nth r2.src r2.pos) fun x4 =>
  bnd (fB (x4.toNat : Int)) fun x5 =>
  if x5 = true then
   G3 r2 go3 true
  else
   bnd (nth r2.src r2.pos) fun x6 =>
   G3 r2 go3 (decide ((x6.toNat : Int) = 59))
 else
  G3 r2 go3 false
def mA (go : PRdS → Option PRdS) (v : PRdS) : Option PRdS :=
 match v with
 | r2 => A7 go r2
def R6 (r : PRdS) : Option PRdS :=
 itr mA LF r
def M8 (s : LB) : Option PD :=
 bnd (R5 s) fun x2 =>
 if x2 = true then
  some (PD.mk 1 0 s [])
 else
  some (PD.mk 0 0 ([] : LB) [])
def bM (s : LB) : Option PD :=
 bnd (R7 s) fun x2 =>
 if x2 = true then
  some (PD.mk 4 0 s [])
 else
  some (PD.mk 0 0 ([] : LB) [])
def nT (b : Int) : Option Bool :=
 if b = 40 then
  some true
 else
  if b = 41 then
   some true
  else
   if b = 34 then
    some true
   else
    if b = 59 then
     some true
    else
     some (decide (b = 39))
def bL (x_1 : Int) : Option PD :=
 bnd (X0 x_1 (-999999999) 999999999) fun x2 =>
 if x2 = true then
  some (PD.mk 2 x_1 ([] : LB) [])
 else
  some (PD.mk 0 0 ([] : LB) [])
def O5 (b : Bool) : Option PD :=
 if b = true then
  some (PD.mk 3 1 ([] : LB) [])
 else
  some (PD.mk 3 0 ([] : LB) [])
def N4 (r : PRdS) (r2 : PRdS) (go3 : PRdS → Option (PD × PRdS)) (x4 : Bool) : Option (PD × PRdS) :=
 if x4 = true then
  chk (I64 (r2.pos + 1)) <|
  go3 (PRdS.mk r2.src (r2.pos + 1) r2.bad)
 else
  chk (0 ≤ r.pos ∧ r.pos ≤ r2.pos ∧ r2.pos ≤ r2.src.length) <|
  bnd (I1 ((r2.src.take r2.pos.toNat).drop r.pos.toNat)) fun x5 =>
  if x5.2 = true then
   bnd (bL x5.1) fun x6 =>
   some (x6, r2)
  else
   if ((r2.src.take r2.pos.toNat).drop r.pos.toNat) = ([35, 116] : LB) then
    bnd (O5 (decide (((r2.src.take r2.pos.toNat).drop r.pos.toNat) = ([35, 116] : LB)))) fun x6 =>
    some (x6, r2)
   else
    if ((r2.src.take r2.pos.toNat).drop r.pos.toNat) = ([35, 102] : LB) then
     bnd (O5 (decide (((r2.src.take r2.pos.toNat).drop r.pos.toNat) = ([35, 116] : LB)))) fun x6 =>
     some (x6, r2)
    else
     bnd (R5 ((r2.src.take r2.pos.toNat).drop r.pos.toNat)) fun x6 =>
     if x6 = true then
      bnd (M8 ((r2.src.take r2.pos.toNat).drop r.pos.toNat)) fun x7 =>
      some (x7, r2)
     else
      some ((PD.mk 0 0 ([] : LB) []), (PRdS.mk r2.src r2.pos true))
def I2 (r : PRdS) (go3 : PRdS → Option (PD × PRdS)) (r2 : PRdS) : Option (PD × PRdS) :=
 if r2.pos < (r2.src.length : Int) then
  bnd (nth r2.src r2.pos) fun x4 =>
  bnd (fB (x4.toNat : Int)) fun x5 =>
  if x5 = true then
   N4 r r2 go3 false
  else
   bnd (nth r2.src r2.pos) fun x6 =>
   bnd (nT (x6.toNat : Int)) fun x7 =>
   N4 r r2 go3 (!x7)
 else
  N4 r r2 go3 false
def lW (r : PRdS) (go : PRdS → Option (PD × PRdS)) (v : PRdS) : Option (PD × PRdS) :=
 match v with
 | r2 => I2 r go r2
def nS (r : PRdS) : Option (PD × PRdS) :=
 itr (lW r) LF r
def Q2 (x3 : PRdS) (r6 : PRdS) (go7 : PRdS → Option (PD × PRdS)) (x8 : Bool) : Option (PD × PRdS) :=
 if x8 = true then
  chk (I64 (r6.pos + 1)) <|
  go7 (PRdS.mk r6.src (r6.pos + 1) r6.bad)
 else
  if r6.pos ≥ (r6.src.length : Int) then
   some ((PD.mk 0 0 ([] : LB) []), (PRdS.mk r6.src r6.pos true))
  else
   chk (0 ≤ (x3.pos + 1) ∧ (x3.pos + 1) ≤ r6.pos ∧ r6.pos ≤ r6.src.length) <|
   bnd (R7 ((r6.src.take r6.pos.toNat).drop (x3.pos + 1).toNat)) fun x9 =>
   if x9 = true then
    chk (I64 (r6.pos + 1)) <|
    chk (I64 ((r6.pos + 1) - 1)) <|
    chk (0 ≤ (x3.pos + 1) ∧ (x3.pos + 1) ≤ ((r6.pos + 1) - 1) ∧ ((r6.pos + 1) - 1) ≤ r6.src.length) <|
    bnd (bM ((r6.src.take ((r6.pos + 1) - 1).toNat).drop (x3.pos + 1).toNat)) fun x10 =>
    some (x10, (PRdS.mk r6.src (r6.pos + 1) r6.bad))
   else
    some ((PD.mk 0 0 ([] : LB) []), (PRdS.mk r6.src r6.pos true))
def I3 (x3 : PRdS) (go7 : PRdS → Option (PD × PRdS)) (r6 : PRdS) : Option (PD × PRdS) :=
 if r6.pos < (r6.src.length : Int) then
  bnd (nth r6.src r6.pos) fun x8 =>
  Q2 x3 r6 go7 (!decide ((x8.toNat : Int) = 34))
 else
  Q2 x3 r6 go7 false
def gN (x3 : PRdS) (go : PRdS → Option (PD × PRdS)) (v : PRdS) : Option (PD × PRdS) :=
 match v with
 | r6 => I3 x3 go r6
def D7 (v7 : PRdS → Option (PD × PRdS)) (r7 : PRdS) (x8 : List PD) (go9 : (PRdS × List PD) → Option (PD × PRdS)) (x10 : Bool) : Option (PD × PRdS) :=
 if x10 = true then
  bnd (v7 r7) fun x11 =>
  chk ((x8.length + ([x11.1] : List PD).length) * 56 ≤ 140737488355328) <|
  bnd (R6 x11.2) fun x12 =>
  go9 (x12, (x8 ++ ([x11.1] : List PD)))
 else
  if r7.bad = true then
   chk (I64 (r7.pos + 1)) <|
   some ((PD.mk 0 0 ([] : LB) x8), (PRdS.mk r7.src (r7.pos + 1) true))
  else
   chk (I64 (r7.pos + 1)) <|
   some ((PD.mk 0 0 ([] : LB) x8), (PRdS.mk r7.src (r7.pos + 1) (decide (r7.pos ≥ (r7.src.length : Int)))))
def L4 (v7 : PRdS → Option (PD × PRdS)) (go9 : (PRdS × List PD) → Option (PD × PRdS)) (r7 : PRdS) (x8 : List PD) : Option (PD × PRdS) :=
 if r7.bad = true then
  D7 v7 r7 x8 go9 false
 else
  if r7.pos < (r7.src.length : Int) then
   bnd (nth r7.src r7.pos) fun x10 =>
   D7 v7 r7 x8 go9 (!decide ((x10.toNat : Int) = 41))
  else
   D7 v7 r7 x8 go9 false
def J2 (v7 : PRdS → Option (PD × PRdS)) (go : (PRdS × List PD) → Option (PD × PRdS)) (v : PRdS × List PD) : Option (PD × PRdS) :=
 match v with
 | (r7, x8) => L4 v7 go r7 x8
def fC (v7 : PRdS → Option (PD × PRdS)) (r : PRdS) : Option (PD × PRdS) :=
 bnd (R6 r) fun x3 =>
 if x3.bad = true then
  some ((PD.mk 0 0 ([] : LB) []), (PRdS.mk x3.src x3.pos true))
 else
  if x3.pos ≥ (x3.src.length : Int) then
   some ((PD.mk 0 0 ([] : LB) []), (PRdS.mk x3.src x3.pos true))
  else
   bnd (nth x3.src x3.pos) fun x4 =>
   if (x4.toNat : Int) = 41 then
    some ((PD.mk 0 0 ([] : LB) []), (PRdS.mk x3.src x3.pos true))
   else
    bnd (nth x3.src x3.pos) fun x5 =>
    if (x5.toNat : Int) = 39 then
     chk (I64 (x3.pos + 1)) <|
     bnd (M8 ([113, 117, 111, 116, 101] : LB)) fun x6 =>
     bnd (v7 (PRdS.mk x3.src (x3.pos + 1) x3.bad)) fun x7 =>
     some ((PD.mk 0 0 ([] : LB) ([x6, x7.1] : List PD)), x7.2)
    else
     if (x5.toNat : Int) = 34 then
      chk (I64 (x3.pos + 1)) <|
      itr (gN x3) LF (PRdS.mk x3.src (x3.pos + 1) x3.bad)
     else
      if (x5.toNat : Int) = 40 then
       chk (I64 (x3.pos + 1)) <|
       bnd (R6 (PRdS.mk x3.src (x3.pos + 1) x3.bad)) fun x6 =>
       itr (J2 v7) LF (x6, [])
      else
       bnd (nS x3) fun x6 =>
       some (x6.1, x6.2)
def v7 : Nat → PRdS → Option (PD × PRdS)
 | 0, _ => none
 | n + 1, r => fC (v7 n) r
def O1 (p7 : PD → Option Int) (d : PD) (go5 : (Int × Int) → Option Int) (x3 : Int) (x4 : Int) : Option Int :=
 if x4 < (d.items.length : Int) then
  bnd (nth d.items x4) fun x6 =>
  bnd (p7 x6) fun x7 =>
  chk (I64 (x3 + x7)) <|
  chk (I64 (x4 + 1)) <|
  go5 ((x3 + x7), (x4 + 1))
 else
  some x3
def cM (p7 : PD → Option Int) (d : PD) (go : (Int × Int) → Option Int) (v : Int × Int) : Option Int :=
 match v with
 | (x3, x4) => O1 p7 d go x3 x4
def S6 (p7 : PD → Option Int) (d : PD) : Option Int :=
 itr (cM p7 d) LF (1, 0)
def p7 : Nat → PD → Option Int
 | 0, _ => none
 | n + 1, d => S6 (p7 n) d
def W5 (list : List PD) (go4 : (Int × Int) → Option Bool) (x2 : Int) (x3 : Int) : Option Bool :=
 if x3 < (list.length : Int) then
  bnd (nth list x3) fun x5 =>
  bnd (eZ x5) fun x6 =>
  if x6 = true then
   bnd (p7 RF x5) fun x7 =>
   chk (I64 (x2 + x7)) <|
   chk (I64 (x3 + 1)) <|
   go4 ((x2 + x7), (x3 + 1))
  else
   some false
 else
  some (decide (x2 ≤ 600))
def jB (list : List PD) (go : (Int × Int) → Option Bool) (v : Int × Int) : Option Bool :=
 match v with
 | (x2, x3) => W5 list go x2 x3
def jA (list : List PD) : Option Bool :=
 itr (jB list) LF (0, 0)
def J1 (r3 : PRdS) (out4 : List PD) (go5 : (PRdS × List PD) → Option (List PD × Bool)) (x6 : Bool) : Option (List PD × Bool) :=
 if x6 = true then
  bnd (v7 RF r3) fun x7 =>
  chk ((out4.length + ([x7.1] : List PD).length) * 56 ≤ 140737488355328) <|
  bnd (R6 x7.2) fun x8 =>
  go5 (x8, (out4 ++ ([x7.1] : List PD)))
 else
  if r3.bad = true then
   some ([], false)
  else
   bnd (jA out4) fun x7 =>
   if x7 = true then
    some (out4, true)
   else
    some ([], false)
def F9 (go5 : (PRdS × List PD) → Option (List PD × Bool)) (r3 : PRdS) (out4 : List PD) : Option (List PD × Bool) :=
 if r3.bad = true then
  J1 r3 out4 go5 false
 else
  J1 r3 out4 go5 (decide (r3.pos < (r3.src.length : Int)))
def F0 (go : (PRdS × List PD) → Option (List PD × Bool)) (v : PRdS × List PD) : Option (List PD × Bool) :=
 match v with
 | (r3, out4) => F9 go r3 out4
def cP (source : LB) : Option (List PD × Bool) :=
 if (source.length : Int) > 15000 then
  some ([], false)
 else
  bnd (R6 (PRdS.mk source 0 false)) fun x2 =>
  itr F0 LF (x2, ([] : List PD))
def O2 (s : LB) (x2 : LB × LB) (go4 : Int → Option (PInstr × Bool)) (op3 : Int) : Option (PInstr × Bool) :=
 if op3 ≤ 20 then
  bnd (dP op3) fun x5 =>
  if x5 = x2.1 then
   if op3 = 1 then
    bnd (cP x2.2) fun x6 =>
    if (x6.1.length : Int) = 1 then
     bnd (nth x6.1 0) fun x7 =>
     bnd (C6 (PInstr.mk op3 0 x7)) fun x8 =>
     if x8 = s then
      some ((PInstr.mk op3 0 x7), true)
     else
      some ((PInstr.mk 0 0 (PD.mk 0 0 ([] : LB) [])), false)
    else
     some ((PInstr.mk 0 0 (PD.mk 0 0 ([] : LB) [])), false)
   else
    bnd (I1 x2.2) fun x6 =>
    bnd (C6 (PInstr.mk op3 x6.1 (PD.mk 0 0 ([] : LB) []))) fun x7 =>
    if x7 = s then
     some ((PInstr.mk op3 x6.1 (PD.mk 0 0 ([] : LB) [])), true)
    else
     some ((PInstr.mk 0 0 (PD.mk 0 0 ([] : LB) [])), false)
  else
   chk (I64 (op3 + 1)) <|
   go4 (op3 + 1)
 else
  some ((PInstr.mk 0 0 (PD.mk 0 0 ([] : LB) [])), false)
def W8 (s : LB) (x2 : LB × LB) (go : Int → Option (PInstr × Bool)) (v : Int) : Option (PInstr × Bool) :=
 match v with
 | op3 => O2 s x2 go op3
def aE (s : LB) : Option (PInstr × Bool) :=
 bnd (Y5 s) fun x2 =>
 itr (W8 s x2) LF 1
end Go.Abs

namespace Go.Abs
set_option linter.unusedVariables false
def T9 : Option (List (LB)) :=
 some ([([43] : LB), ([45] : LB), ([42] : LB), ([61] : LB), ([60] : LB), ([99, 111, 110, 115] : LB), ([99, 97, 114] : LB), ([99, 100, 114] : LB), ([110, 117, 108, 108, 63] : LB), ([112, 97, 105, 114, 63] : LB), ([110, 117, 109, 98, 101, 114, 63] : LB), ([101, 113, 63] : LB), ([110, 111, 116] : LB), ([100, 105, 115, 112, 108, 97, 121] : LB)] : List (LB))
def V1 (m : PImage) (x_1 : Int) (x_2 : PInstr) (x5 : Bool) : Option Bool :=
 if x5 = true then
  if x_2.a < x_1 then
   bnd (nth m.codes x_2.a) fun x6 =>
   some (decide (x6.params = 0))
  else
   some false
 else
  if x_2.op = 19 then
   if x_2.a < x_1 then
    bnd (nth m.codes x_2.a) fun x6 =>
    some (decide (x6.params = 1))
   else
    some false
  else
   if x_2.op = 12 then
    some (decide (x_2.a ≤ 8))
   else
    if x_2.op = 13 then
     some (decide (x_2.a ≤ 8))
    else
     some true
def jI (m : PImage) (x_1 : Int) (x_2 : PInstr) : Option Bool :=
 bnd (nth m.codes x_1) fun x4 =>
 if x_2.op = 2 then
  bnd (T9) fun x5 =>
  some (decide (x_2.a < (x5.length : Int)))
 else
  if x_2.op = 3 then
   some (decide (x_2.a < x4.slots))
  else
   if x_2.op = 5 then
    some (decide (x_2.a < x4.slots))
   else
    if x_2.op = 7 then
     some (decide (x_2.a < x4.slots))
    else
     if x_2.op = 9 then
      chk (I64 (x4.slots - 1)) <|
      bnd (X0 x_2.a x4.params (x4.slots - 1)) fun x5 =>
      some x5
     else
      if x_2.op = 10 then
       some (decide (x_2.a < x4.params))
      else
       if x_2.op = 4 then
        some (decide (x_2.a < x4.captures))
       else
        if x_2.op = 6 then
         some (decide (x_2.a < x4.captures))
        else
         if x_2.op = 8 then
          some (decide (x_2.a < x4.captures))
         else
          if x_2.op = 11 then
           if x_2.a < x_1 then
            bnd (nth m.codes x_2.a) fun x5 =>
            some (decide (x5.params ≤ 8))
           else
            some false
          else
           if x_2.op = 18 then
            V1 m x_1 x_2 true
           else
            V1 m x_1 x_2 (decide (x_2.op = 20))
def M9 (m : PImage) (x_1 : Int) (x3 : PCode) (go9 : Int → Option Bool) (x8 : Int) : Option Bool :=
 if x8 < (x3.instrs.length : Int) then
  bnd (nth x3.instrs x8) fun x10 =>
  bnd (bQ x10) fun x11 =>
  if x11 = true then
   bnd (jI m x_1 x10) fun x12 =>
   if x12 = true then
    chk (I64 (x8 + 1)) <|
    go9 (x8 + 1)
   else
    some false
  else
   some false
 else
  some true
def pW (m : PImage) (x_1 : Int) (x3 : PCode) (go : Int → Option Bool) (v : Int) : Option Bool :=
 match v with
 | x8 => M9 m x_1 x3 go x8
def jG (m : PImage) (x_1 : Int) : Option Bool :=
 bnd (nth m.codes x_1) fun x3 =>
 bnd (X0 x3.params 0 8) fun x4 =>
 if x4 = true then
  bnd (X0 x3.slots x3.params 500) fun x5 =>
  if x5 = true then
   bnd (X0 x3.captures 0 500) fun x6 =>
   if x6 = true then
    bnd (X0 (x3.instrs.length : Int) 1 4000) fun x7 =>
    if x7 = true then
     itr (pW m x_1 x3) LF 0
    else
     some false
   else
    some false
  else
   some false
 else
  some false
def cR (m : PImage) (x_1 : PInstr) : Option (Int × Int) :=
 if x_1.op = 1 then
  some (0, 1)
 else
  if x_1.op = 2 then
   some (0, 1)
  else
   if x_1.op = 3 then
    some (0, 1)
   else
    if x_1.op = 4 then
     some (0, 1)
    else
     if x_1.op = 5 then
      some (0, 1)
     else
      if x_1.op = 6 then
       some (0, 1)
      else
       if x_1.op = 7 then
        some (1, 1)
       else
        if x_1.op = 8 then
         some (1, 1)
        else
         if x_1.op = 11 then
          bnd (nth m.codes x_1.a) fun x3 =>
          some (x3.captures, 1)
         else
          if x_1.op = 18 then
           bnd (nth m.codes x_1.a) fun x3 =>
           some (x3.captures, 1)
          else
           if x_1.op = 19 then
            bnd (nth m.codes x_1.a) fun x3 =>
            some (x3.captures, 1)
           else
            if x_1.op = 20 then
             bnd (nth m.codes x_1.a) fun x3 =>
             some (x3.captures, 1)
            else
             if x_1.op = 12 then
              chk (I64 (x_1.a + 1)) <|
              some ((x_1.a + 1), 1)
             else
              if x_1.op = 13 then
               chk (I64 (x_1.a + 1)) <|
               some ((x_1.a + 1), 0)
              else
               if x_1.op = 14 then
                some (1, 0)
               else
                if x_1.op = 17 then
                 some (1, 0)
                else
                 if x_1.op = 16 then
                  some (1, 0)
                 else
                  some (0, 0)
def C8 (x8 : Int) (go10 : (Int × LI) → Option (LI × Bool)) (depths11 : LI) : Option (LI × Bool) :=
 chk (I64 (x8 + 1)) <|
 go10 ((x8 + 1), depths11)
def F3 (x13 : Int × Int) (x14 : Int) (x17 : Int) (depths18 : LI) (go19 : (Int × LI) → Option (LI × Bool)) (x20 : Int) (x21 : Bool) : Option (LI × Bool) :=
 if x21 = true then
  some ([], false)
 else
  chk (I64 ((x14 - x13.1) + x13.2)) <|
  bnd (nth depths18 x20) fun x22 =>
  chk (I64 (x17 + 1)) <|
  go19 ((x17 + 1), (depths18.set x20.toNat ((x14 - x13.1) + x13.2)))
def G2 (x3 : PCode) (x8 : Int) (go10 : (Int × LI) → Option (LI × Bool)) (x13 : Int × Int) (x14 : Int) (x16 : LI) (go19 : (Int × LI) → Option (LI × Bool)) (x17 : Int) (depths18 : LI) : Option (LI × Bool) :=
 if x17 < (x16.length : Int) then
  bnd (nth x16 x17) fun x20 =>
  if x20 ≤ x8 then
   F3 x13 x14 x17 depths18 go19 x20 true
  else
   if x20 ≥ (x3.instrs.length : Int) then
    F3 x13 x14 x17 depths18 go19 x20 true
   else
    bnd (nth depths18 x20) fun x21 =>
    if x21 ≥ 0 then
     bnd (nth depths18 x20) fun x22 =>
     chk (I64 ((x14 - x13.1) + x13.2)) <|
     F3 x13 x14 x17 depths18 go19 x20 (!decide (x22 = ((x14 - x13.1) + x13.2)))
    else
     F3 x13 x14 x17 depths18 go19 x20 false
 else
  C8 x8 go10 depths18
def Z3 (x3 : PCode) (x8 : Int) (go10 : (Int × LI) → Option (LI × Bool)) (x13 : Int × Int) (x14 : Int) (x16 : LI) (go : (Int × LI) → Option (LI × Bool)) (v : Int × LI) : Option (LI × Bool) :=
 match v with
 | (x17, depths18) => G2 x3 x8 go10 x13 x14 x16 go x17 depths18
def A1 (x3 : PCode) (x8 : Int) (depths9 : LI) (go10 : (Int × LI) → Option (LI × Bool)) (x13 : Int × Int) (x14 : Int) (x16 : LI) : Option (LI × Bool) :=
 itr (Z3 x3 x8 go10 x13 x14 x16) LF (0, depths9)
def O6 (x3 : PCode) (x8 : Int) (depths9 : LI) (go10 : (Int × LI) → Option (LI × Bool)) (x11 : PInstr) (x13 : Int × Int) (x14 : Int) (x16 : Bool) : Option (LI × Bool) :=
 if x16 = true then
  A1 x3 x8 depths9 go10 x13 x14 []
 else
  if x11.op = 15 then
   A1 x3 x8 depths9 go10 x13 x14 ([x11.a] : LI)
  else
   if x11.op = 16 then
    chk ((([(x8 + 1)] : LI).length + ([x11.a] : LI).length) * 8 ≤ 140737488355328) <|
    A1 x3 x8 depths9 go10 x13 x14 (([(x8 + 1)] : LI) ++ ([x11.a] : LI))
   else
    A1 x3 x8 depths9 go10 x13 x14 ([(x8 + 1)] : LI)
def u4 (x3 : PCode) (x8 : Int) (depths9 : LI) (go10 : (Int × LI) → Option (LI × Bool)) (x11 : PInstr) (x13 : Int × Int) (x14 : Int) (x15 : Bool) : Option (LI × Bool) :=
 if x15 = true then
  some ([], false)
 else
  chk (I64 (x8 + 1)) <|
  if x11.op = 14 then
   O6 x3 x8 depths9 go10 x11 x13 x14 true
  else
   O6 x3 x8 depths9 go10 x11 x13 x14 (decide (x11.op = 13))
def G1 (m : PImage) (x3 : PCode) (go10 : (Int × LI) → Option (LI × Bool)) (x8 : Int) (depths9 : LI) : Option (LI × Bool) :=
 if x8 < (x3.instrs.length : Int) then
  bnd (nth x3.instrs x8) fun x11 =>
  bnd (nth depths9 x8) fun x12 =>
  if x12 < 0 then
   C8 x8 go10 depths9
  else
   bnd (cR m x11) fun x13 =>
   bnd (nth depths9 x8) fun x14 =>
   chk (I64 (x14 - x13.1)) <|
   if (x14 - x13.1) < 0 then
    u4 x3 x8 depths9 go10 x11 x13 x14 true
   else
    chk (I64 ((x14 - x13.1) + x13.2)) <|
    if ((x14 - x13.1) + x13.2) > 500 then
     u4 x3 x8 depths9 go10 x11 x13 x14 true
    else
     if x11.op = 14 then
      if (x14 - x13.1) = 0 then
       if x11.op = 13 then
        u4 x3 x8 depths9 go10 x11 x13 x14 (!decide ((x14 - x13.1) = 0))
       else
        u4 x3 x8 depths9 go10 x11 x13 x14 false
      else
       u4 x3 x8 depths9 go10 x11 x13 x14 true
     else
      if x11.op = 13 then
       u4 x3 x8 depths9 go10 x11 x13 x14 (!decide ((x14 - x13.1) = 0))
      else
       u4 x3 x8 depths9 go10 x11 x13 x14 false
 else
  some (depths9, true)
def Z2 (m : PImage) (x3 : PCode) (go : (Int × LI) → Option (LI × Bool)) (v : Int × LI) : Option (LI × Bool) :=
 match v with
 | (x8, depths9) => G1 m x3 go x8 depths9
def G0 (m : PImage) (x3 : PCode) (go6 : (Int × LI) → Option (LI × Bool)) (x4 : Int) (depths5 : LI) : Option (LI × Bool) :=
 if x4 < ((List.replicate (x3.instrs.length : Int).toNat (0 : Int)).length : Int) then
  bnd (nth depths5 x4) fun x7 =>
  chk (I64 (x4 + 1)) <|
  go6 ((x4 + 1), (depths5.set x4.toNat (-1)))
 else
  if (x3.instrs.length : Int) = 0 then
   some ([], false)
  else
   bnd (nth depths5 0) fun x7 =>
   itr (Z2 m x3) LF (0, (depths5.set (0 : Int).toNat 0))
def eC (m : PImage) (x3 : PCode) (go : (Int × LI) → Option (LI × Bool)) (v : Int × LI) : Option (LI × Bool) :=
 match v with
 | (x4, depths5) => G0 m x3 go x4 depths5
def cQ (m : PImage) (x_1 : Int) : Option (LI × Bool) :=
 bnd (nth m.codes x_1) fun x3 =>
 chk (0 ≤ (x3.instrs.length : Int) ∧ (8 : Nat) * (x3.instrs.length : Int) ≤ 281474976710656 ∧ (x3.instrs.length : Int) ≤ 281474976710656) <|
 itr (eC m x3) LF (0, (List.replicate (x3.instrs.length : Int).toNat (0 : Int)))
def cS (op : Int) : Option Bool :=
 if op = 11 then
  some true
 else
  if op = 18 then
   some true
  else
   if op = 19 then
    some true
   else
    some (decide (op = 20))
def V3 (x6 : Int) (go8 : (Int × LI) → Option Bool) (times9 : LI) : Option Bool :=
 chk (I64 (x6 + 1)) <|
 go8 ((x6 + 1), times9)
def N2 (x2 : Int) (go4 : (Int × LI) → Option Bool) (x5 : PCode) (go8 : (Int × LI) → Option Bool) (x6 : Int) (times7 : LI) : Option Bool :=
 if x6 < (x5.instrs.length : Int) then
  bnd (nth x5.instrs x6) fun x9 =>
  bnd (cS x9.op) fun x10 =>
  if x10 = true then
   bnd (nth times7 x9.a) fun x11 =>
   chk (I64 (x11 + 1)) <|
   bnd (nth times7 x9.a) fun x12 =>
   V3 x6 go8 (times7.set x9.a.toNat (x11 + 1))
  else
   V3 x6 go8 times7
 else
  chk (I64 (x2 + 1)) <|
  go4 ((x2 + 1), times7)
def dQ (x2 : Int) (go4 : (Int × LI) → Option Bool) (x5 : PCode) (go : (Int × LI) → Option Bool) (v : Int × LI) : Option Bool :=
 match v with
 | (x6, times7) => N2 x2 go4 x5 go x6 times7
def V4 (x5 : Int) (go6 : Int → Option Bool) (x8 : Bool) : Option Bool :=
 if x8 = true then
  some false
 else
  chk (I64 (x5 + 1)) <|
  go6 (x5 + 1)
def N3 (m : PImage) (times3 : LI) (go6 : Int → Option Bool) (x5 : Int) : Option Bool :=
 if x5 < (times3.length : Int) then
  bnd (nth times3 x5) fun x7 =>
  if x7 = 1 then
   V4 x5 go6 false
  else
   V4 x5 go6 (!decide (x5 = m.main))
 else
  some true
def dR (m : PImage) (times3 : LI) (go : Int → Option Bool) (v : Int) : Option Bool :=
 match v with
 | x5 => N3 m times3 go x5
def N1 (m : PImage) (go4 : (Int × LI) → Option Bool) (x2 : Int) (times3 : LI) : Option Bool :=
 if x2 < (m.codes.length : Int) then
  bnd (nth m.codes x2) fun x5 =>
  itr (dQ x2 go4 x5) LF (0, times3)
 else
  itr (dR m times3) LF 0
def jL (m : PImage) (go : (Int × LI) → Option Bool) (v : Int × LI) : Option Bool :=
 match v with
 | (x2, times3) => N1 m go x2 times3
def jK (m : PImage) : Option Bool :=
 chk (0 ≤ (m.codes.length : Int) ∧ (8 : Nat) * (m.codes.length : Int) ≤ 281474976710656 ∧ (m.codes.length : Int) ≤ 281474976710656) <|
 itr (jL m) LF (0, (List.replicate (m.codes.length : Int).toNat (0 : Int)))
def W7 (m : PImage) (go8 : (Int × Int) → Option Bool) (x6 : Int) (x7 : Int) : Option Bool :=
 if x7 < (m.codes.length : Int) then
  bnd (jG m x7) fun x9 =>
  if x9 = true then
   bnd (cQ m x7) fun x10 =>
   if x10.2 = true then
    bnd (nth m.codes x7) fun x11 =>
    chk (I64 (x6 + (x11.instrs.length : Int))) <|
    chk (I64 (x7 + 1)) <|
    go8 ((x6 + (x11.instrs.length : Int)), (x7 + 1))
   else
    some false
  else
   some false
 else
  if x6 ≤ 16000 then
   bnd (jK m) fun x9 =>
   some x9
  else
   some false
def jF (m : PImage) (go : (Int × Int) → Option Bool) (v : Int × Int) : Option Bool :=
 match v with
 | (x6, x7) => W7 m go x6 x7
def jE (m : PImage) (captures : Int) : Option Bool :=
 bnd (X0 (m.codes.length : Int) 1 1500) fun x3 =>
 if x3 = true then
  chk (I64 ((m.codes.length : Int) - 1)) <|
  if m.main = ((m.codes.length : Int) - 1) then
   bnd (nth m.codes m.main) fun x4 =>
   if x4.params = 0 then
    bnd (nth m.codes m.main) fun x5 =>
    if x5.captures = captures then
     itr (jF m) LF (0, 0)
    else
     some false
   else
    some false
  else
   some false
 else
  some false
def K7 (out3 : LI) (go4 : (LB × LI) → Option (LI)) (x5 : LB × LB) (x7 : Int) : Option (LI) :=
 chk ((out3.length + ([x7] : LI).length) * 8 ≤ 140737488355328) <|
 go4 (x5.2, (out3 ++ ([x7] : LI)))
def D6 (go4 : (LB × LI) → Option (LI)) (s2 : LB) (out3 : LI) : Option (LI) :=
 if s2 = ([] : LB) then
  some out3
 else
  bnd (Y5 s2) fun x5 =>
  bnd (I1 x5.1) fun x6 =>
  if x6.2 = true then
   K7 out3 go4 x5 x6.1
  else
   K7 out3 go4 x5 (-1)
def K8 (go : (LB × LI) → Option (LI)) (v : LB × LI) : Option (LI) :=
 match v with
 | (s2, out3) => D6 go s2 out3
def aF (s : LB) : Option (LI) :=
 itr K8 LF (s, ([] : LI))
def V2 (x2 : Int) (go4 : (Int × List PCode) → Option PImage) (x5 : List PCode) : Option PImage :=
 chk (I64 (x2 + 1)) <|
 go4 ((x2 + 1), x5)
def N0 (lines : List (LB)) (go4 : (Int × List PCode) → Option PImage) (x2 : Int) (x3 : List PCode) : Option PImage :=
 if x2 < (lines.length : Int) then
  bnd (nth lines x2) fun x5 =>
  bnd (Y5 x5) fun x6 =>
  if x6.1 = ([99, 111, 100, 101] : LB) then
   bnd (aF x6.2) fun x7 =>
   chk ((x7.length + ([(-1), (-1), (-1)] : LI).length) * 8 ≤ 140737488355328) <|
   bnd (nth (x7 ++ ([(-1), (-1), (-1)] : LI)) 0) fun x8 =>
   bnd (nth (x7 ++ ([(-1), (-1), (-1)] : LI)) 1) fun x9 =>
   bnd (nth (x7 ++ ([(-1), (-1), (-1)] : LI)) 2) fun x10 =>
   chk ((x3.length + ([(PCode.mk x8 x9 x10 [])] : List PCode).length) * 48 ≤ 140737488355328) <|
   V2 x2 go4 (x3 ++ ([(PCode.mk x8 x9 x10 [])] : List PCode))
  else
   bnd (aE x5) fun x7 =>
   if (x3.length : Int) = 0 then
    some (PImage.mk [] 0)
   else
    chk (I64 ((x3.length : Int) - 1)) <|
    bnd (nth x3 ((x3.length : Int) - 1)) fun x8 =>
    chk ((x8.instrs.length + ([x7.1] : List PInstr).length) * 72 ≤ 140737488355328) <|
    V2 x2 go4 (x3.set ((x3.length : Int) - 1).toNat (PCode.mk x8.params x8.slots x8.captures (x8.instrs ++ ([x7.1] : List PInstr))))
 else
  chk (I64 ((x3.length : Int) - 1)) <|
  some (PImage.mk x3 ((x3.length : Int) - 1))
def B4 (lines : List (LB)) (go : (Int × List PCode) → Option PImage) (v : Int × List PCode) : Option PImage :=
 match v with
 | (x2, x3) => N0 lines go x2 x3
def jJ (lines : List (LB)) : Option PImage :=
 itr (B4 lines) LF (0, [])
def kO (m : PImage) : Option Bool :=
 if (m.codes.length : Int) > 0 then
  chk (I64 ((m.codes.length : Int) - 1)) <|
  bnd (nth m.codes ((m.codes.length : Int) - 1)) fun x2 =>
  bnd (jE m x2.captures) fun x3 =>
  some x3
 else
  some false
def jQ (a : List (LB)) (b : List (LB)) (go4 : Int → Option Bool) (x3 : Int) : Option Bool :=
 if x3 < (a.length : Int) then
  bnd (nth a x3) fun x5 =>
  bnd (nth b x3) fun x6 =>
  if x5 = x6 then
   chk (I64 (x3 + 1)) <|
   go4 (x3 + 1)
  else
   some false
 else
  some true
def tP (a : List (LB)) (b : List (LB)) (go : Int → Option Bool) (v : Int) : Option Bool :=
 match v with
 | x3 => jQ a b go x3
def nZ (a : List (LB)) (b : List (LB)) : Option Bool :=
 if (a.length : Int) = (b.length : Int) then
  itr (tP a b) LF 0
 else
  some false
def eE (x2 : Int) (go4 : (Int × List (LB)) → Option (List (LB))) (x5 : PCode) (go11 : (Int × List (LB)) → Option (List (LB))) (x9 : Int) (out10 : List (LB)) : Option (List (LB)) :=
 if x9 < (x5.instrs.length : Int) then
  bnd (nth x5.instrs x9) fun x12 =>
  bnd (C6 x12) fun x13 =>
  chk ((out10.length + ([x13] : List (LB)).length) * 16 ≤ 140737488355328) <|
  chk (I64 (x9 + 1)) <|
  go11 ((x9 + 1), (out10 ++ ([x13] : List (LB))))
 else
  chk (I64 (x2 + 1)) <|
  go4 ((x2 + 1), out10)
def gG (x2 : Int) (go4 : (Int × List (LB)) → Option (List (LB))) (x5 : PCode) (go : (Int × List (LB)) → Option (List (LB))) (v : Int × List (LB)) : Option (List (LB)) :=
 match v with
 | (x9, out10) => eE x2 go4 x5 go x9 out10
def eD (m : PImage) (go4 : (Int × List (LB)) → Option (List (LB))) (x2 : Int) (out3 : List (LB)) : Option (List (LB)) :=
 if x2 < (m.codes.length : Int) then
  bnd (nth m.codes x2) fun x5 =>
  bnd (w8 x5.params) fun x6 =>
  chk (([99, 111, 100, 101, 32] : LB).length + x6.length ≤ 9223372036854775807) <|
  chk ((([99, 111, 100, 101, 32] : LB) ++ x6).length + ([32] : LB).length ≤ 9223372036854775807) <|
  bnd (w8 x5.slots) fun x7 =>
  chk (((([99, 111, 100, 101, 32] : LB) ++ x6) ++ ([32] : LB)).length + x7.length ≤ 9223372036854775807) <|
  chk ((((([99, 111, 100, 101, 32] : LB) ++ x6) ++ ([32] : LB)) ++ x7).length + ([32] : LB).length ≤ 9223372036854775807) <|
  bnd (w8 x5.captures) fun x8 =>
  chk (((((([99, 111, 100, 101, 32] : LB) ++ x6) ++ ([32] : LB)) ++ x7) ++ ([32] : LB)).length + x8.length ≤ 9223372036854775807) <|
  chk ((out3.length + ([(((((([99, 111, 100, 101, 32] : LB) ++ x6) ++ ([32] : LB)) ++ x7) ++ ([32] : LB)) ++ x8)] : List (LB)).length) * 16 ≤ 140737488355328) <|
  itr (gG x2 go4 x5) LF (0, (out3 ++ ([(((((([99, 111, 100, 101, 32] : LB) ++ x6) ++ ([32] : LB)) ++ x7) ++ ([32] : LB)) ++ x8)] : List (LB))))
 else
  some out3
def gF (m : PImage) (go : (Int × List (LB)) → Option (List (LB))) (v : Int × List (LB)) : Option (List (LB)) :=
 match v with
 | (x2, out3) => eD m go x2 out3
def Y4 (m : PImage) : Option (List (LB)) :=
 itr (gF m) LF (0, ([] : List (LB)))
def aD (lines : List (LB)) : Option (PImage × Bool) :=
 bnd (jJ lines) fun x2 =>
 bnd (kO x2) fun x3 =>
 if x3 = true then
  bnd (Y4 x2) fun x4 =>
  bnd (nZ x4 lines) fun x5 =>
  if x5 = true then
   some (x2, true)
  else
   some ((PImage.mk [] 0), false)
 else
  some ((PImage.mk [] 0), false)
end Go.Abs

namespace Go.Abs
set_option linter.unusedVariables false
def Q5 (a : List (LB)) (go5 : (Int × Int) → Option Int) (left3 : Int) (i4 : Int) : Option Int :=
 if i4 < (a.length : Int) then
  bnd (nth a i4) fun x6 =>
  chk (I64 (left3 - (x6.length : Int))) <|
  if (left3 - (x6.length : Int)) < 0 then
   some (-1)
  else
   chk (I64 (i4 + 1)) <|
   go5 ((left3 - (x6.length : Int)), (i4 + 1))
 else
  some left3
def eN (a : List (LB)) (go : (Int × Int) → Option Int) (v : Int × Int) : Option Int :=
 match v with
 | (left3, i4) => Q5 a go left3 i4
def dF (a : List (LB)) (left : Int) : Option Int :=
 chk (I64 (left - (a.length : Int))) <|
 if (left - (a.length : Int)) < 0 then
  some (-1)
 else
  itr (eN a) LF ((left - (a.length : Int)), 0)
def Q6 (a : List (LB)) (go4 : (Int × List (LB)) → Option (List (LB))) (i2 : Int) (out3 : List (LB)) : Option (List (LB)) :=
 if i2 < (a.length : Int) then
  bnd (nth a i2) fun x5 =>
  bnd (nth out3 i2) fun x6 =>
  chk (I64 (i2 + 1)) <|
  go4 ((i2 + 1), (out3.set i2.toNat x5))
 else
  some out3
def Z5 (a : List (LB)) (go : (Int × List (LB)) → Option (List (LB))) (v : Int × List (LB)) : Option (List (LB)) :=
 match v with
 | (i2, out3) => Q6 a go i2 out3
def J5 (a : List (LB)) : Option (List (LB)) :=
 chk (0 ≤ (a.length : Int) ∧ (16 : Nat) * (a.length : Int) ≤ 281474976710656 ∧ (a.length : Int) ≤ 281474976710656) <|
 itr (Z5 a) LF (0, (List.replicate (a.length : Int).toNat (([] : LB) : LB)))
def cY (q9 : PD → PD → Option Bool) (y7 : List PD → List PD → Option Bool) (a : PD) (b : PD) : Option Bool :=
 if a.kind = b.kind then
  if a.number = b.number then
   if a.text = b.text then
    bnd (y7 a.items b.items) fun x5 =>
    if x5 = true then
     some true
    else
     some false
   else
    some false
  else
   some false
 else
  some false
def eF (q9 : PD → PD → Option Bool) (a : List PD) (b : List PD) (go6 : Int → Option Bool) (i5 : Int) : Option Bool :=
 if i5 < (a.length : Int) then
  bnd (nth a i5) fun x7 =>
  bnd (nth b i5) fun x8 =>
  bnd (q9 x7 x8) fun x9 =>
  if x9 = true then
   chk (I64 (i5 + 1)) <|
   go6 (i5 + 1)
  else
   some false
 else
  some true
def gU (q9 : PD → PD → Option Bool) (a : List PD) (b : List PD) (go : Int → Option Bool) (v : Int) : Option Bool :=
 match v with
 | i5 => eF q9 a b go i5
def aL (q9 : PD → PD → Option Bool) (y7 : List PD → List PD → Option Bool) (a : List PD) (b : List PD) : Option Bool :=
 if (a.length : Int) = (b.length : Int) then
  itr (gU q9 a b) LF 0
 else
  some false
mutual
def q9 : Nat → PD → PD → Option Bool
 | 0, _, _ => none
 | n + 1, a, b => cY (q9 n) (y7 n) a b
def y7 : Nat → List PD → List PD → Option Bool
 | 0, _, _ => none
 | n + 1, a, b => aL (q9 n) (y7 n) a b
end
def fJ (a : PInstr) (b : PInstr) : Option Bool :=
 if a.op = b.op then
  if a.a = b.a then
   bnd (q9 RF a.d b.d) fun x3 =>
   if x3 = true then
    some true
   else
    some false
  else
   some false
 else
  some false
def eG (a : List PInstr) (b : List PInstr) (go4 : Int → Option Bool) (i3 : Int) : Option Bool :=
 if i3 < (a.length : Int) then
  bnd (nth a i3) fun x5 =>
  bnd (nth b i3) fun x6 =>
  bnd (fJ x5 x6) fun x7 =>
  if x7 = true then
   chk (I64 (i3 + 1)) <|
   go4 (i3 + 1)
  else
   some false
 else
  some true
def gV (a : List PInstr) (b : List PInstr) (go : Int → Option Bool) (v : Int) : Option Bool :=
 match v with
 | i3 => eG a b go i3
def kS (a : List PInstr) (b : List PInstr) : Option Bool :=
 if (a.length : Int) = (b.length : Int) then
  itr (gV a b) LF 0
 else
  some false
def kR (a : PCode) (b : PCode) : Option Bool :=
 if a.params = b.params then
  if a.slots = b.slots then
   if a.captures = b.captures then
    bnd (kS a.instrs b.instrs) fun x3 =>
    if x3 = true then
     some true
    else
     some false
   else
    some false
  else
   some false
 else
  some false
def gT (a : List PCode) (b : List PCode) (go4 : Int → Option Bool) (i3 : Int) : Option Bool :=
 if i3 < (a.length : Int) then
  bnd (nth a i3) fun x5 =>
  bnd (nth b i3) fun x6 =>
  bnd (kR x5 x6) fun x7 =>
  if x7 = true then
   chk (I64 (i3 + 1)) <|
   go4 (i3 + 1)
  else
   some false
 else
  some true
def jS (a : List PCode) (b : List PCode) (go : Int → Option Bool) (v : Int) : Option Bool :=
 match v with
 | i3 => gT a b go i3
def oJ (a : List PCode) (b : List PCode) : Option Bool :=
 if (a.length : Int) = (b.length : Int) then
  itr (jS a b) LF 0
 else
  some false
def cZ (a : PImage) (b : PImage) : Option Bool :=
 bnd (oJ a.codes b.codes) fun x3 =>
 if x3 = true then
  if a.main = b.main then
   some true
  else
   some false
 else
  some false
def dB (a : List (LB)) (b : List (LB)) (go4 : Int → Option Bool) (i3 : Int) : Option Bool :=
 if i3 < (a.length : Int) then
  bnd (nth a i3) fun x5 =>
  bnd (nth b i3) fun x6 =>
  if x5 = x6 then
   chk (I64 (i3 + 1)) <|
   go4 (i3 + 1)
  else
   some false
 else
  some true
def eI (a : List (LB)) (b : List (LB)) (go : Int → Option Bool) (v : Int) : Option Bool :=
 match v with
 | i3 => dB a b go i3
def dA (a : List (LB)) (b : List (LB)) : Option Bool :=
 if (a.length : Int) = (b.length : Int) then
  itr (eI a b) LF 0
 else
  some false
def S9 (go4 : (Int × LB) → Option (LB)) (k2 : Int) (out3 : LB) : Option (LB) :=
 if k2 > 0 then
  chk (0 ≤ k2 ∧ k2 ≤ 9223372036854775807 ∧ (0 : Int) < 10) <|
  chk (I64 (48 + (k2 % 10))) <|
  chk (0 ≤ (48 + (k2 % 10)) ∧ (48 + (k2 % 10)) ≤ 255) <|
  chk (([(UInt8.ofNat (48 + (k2 % 10)).toNat)] : LB).length + out3.length ≤ 9223372036854775807) <|
  chk (0 ≤ k2 ∧ k2 ≤ 9223372036854775807 ∧ (0 : Int) < 10) <|
  go4 ((k2 / 10), (([(UInt8.ofNat (48 + (k2 % 10)).toNat)] : LB) ++ out3))
 else
  chk (([109] : LB).length + out3.length ≤ 9223372036854775807) <|
  some (([109] : LB) ++ out3)
def gW (go : (Int × LB) → Option (LB)) (v : Int × LB) : Option (LB) :=
 match v with
 | (k2, out3) => S9 go k2 out3
def F5 (k : Int) : Option (LB) :=
 if k ≤ 0 then
  some ([109, 48] : LB)
 else
  itr gW LF (k, ([] : LB))
def L3 (go6 : (Int × Int × List (LB)) → Option (Int × List (LB))) (k3 : Int) (i4 : Int) (a5 : List (LB)) : Option (Int × List (LB)) :=
 if i4 < (a5.length : Int) then
  bnd (F5 k3) fun x7 =>
  bnd (nth a5 i4) fun x8 =>
  chk (I64 (k3 + 1)) <|
  chk (I64 (i4 + 1)) <|
  go6 ((k3 + 1), (i4 + 1), (a5.set i4.toNat x7))
 else
  some (k3, a5)
def bB (go : (Int × Int × List (LB)) → Option (Int × List (LB))) (v : Int × Int × List (LB)) : Option (Int × List (LB)) :=
 match v with
 | (k3, i4, a5) => L3 go k3 i4 a5
def X4 (a : List (LB)) (k : Int) : Option (Int × List (LB)) :=
 itr bB LF (k, 0, a)
def t8 (n8 : List PD → Int → Option (Int × List PD)) (go7 : (Int × Int × List PD) → Option (Int × List PD)) (k4 : Int) (i5 : Int) (a6 : List PD) : Option (Int × List PD) :=
 if i5 < (a6.length : Int) then
  bnd (nth a6 i5) fun x8 =>
  chk (I64 (k4 + 1)) <|
  bnd (nth (a6.set i5.toNat (PD.mk k4 x8.number x8.text x8.items)) i5) fun x9 =>
  chk (I64 ((k4 + 1) + 1)) <|
  bnd (F5 ((k4 + 1) + 1)) fun x10 =>
  bnd (nth ((a6.set i5.toNat (PD.mk k4 x8.number x8.text x8.items)).set i5.toNat (PD.mk x9.kind (k4 + 1) x9.text x9.items)) i5) fun x11 =>
  chk (I64 (((k4 + 1) + 1) + 1)) <|
  bnd (nth (((a6.set i5.toNat (PD.mk k4 x8.number x8.text x8.items)).set i5.toNat (PD.mk x9.kind (k4 + 1) x9.text x9.items)).set i5.toNat (PD.mk x11.kind x11.number x10 x11.items)) i5) fun x12 =>
  bnd (n8 x12.items (((k4 + 1) + 1) + 1)) fun x13 =>
  chk (x13.2.length = x12.items.length) <|
  chk (I64 (i5 + 1)) <|
  go7 (x13.1, (i5 + 1), ((((a6.set i5.toNat (PD.mk k4 x8.number x8.text x8.items)).set i5.toNat (PD.mk x9.kind (k4 + 1) x9.text x9.items)).set i5.toNat (PD.mk x11.kind x11.number x10 x11.items)).set i5.toNat (PD.mk x12.kind x12.number x12.text x13.2)))
 else
  some (k4, a6)
def X2 (n8 : List PD → Int → Option (Int × List PD)) (go : (Int × Int × List PD) → Option (Int × List PD)) (v : Int × Int × List PD) : Option (Int × List PD) :=
 match v with
 | (k4, i5, a6) => t8 n8 go k4 i5 a6
def J4 (n8 : List PD → Int → Option (Int × List PD)) (a : List PD) (k : Int) : Option (Int × List PD) :=
 itr (X2 n8) LF (k, 0, a)
def n8 : Nat → List PD → Int → Option (Int × List PD)
 | 0, _, _ => none
 | n + 1, a, k => J4 (n8 n) a k
def u3 (a : List PInstr) (go6 : (Int × Int × List PInstr) → Option (Int × List PInstr)) (k3 : Int) (i4 : Int) (a5 : List PInstr) : Option (Int × List PInstr) :=
 if i4 < (a5.length : Int) then
  bnd (nth a5 i4) fun x7 =>
  chk (I64 (k3 + 1)) <|
  bnd (nth (a5.set i4.toNat (PInstr.mk k3 x7.a x7.d)) i4) fun x8 =>
  chk (I64 ((k3 + 1) + 1)) <|
  bnd (nth ((a5.set i4.toNat (PInstr.mk k3 x7.a x7.d)).set i4.toNat (PInstr.mk x8.op (k3 + 1) x8.d)) i4) fun x9 =>
  chk (I64 (((k3 + 1) + 1) + 1)) <|
  bnd (nth (((a5.set i4.toNat (PInstr.mk k3 x7.a x7.d)).set i4.toNat (PInstr.mk x8.op (k3 + 1) x8.d)).set i4.toNat (PInstr.mk x9.op x9.a (PD.mk ((k3 + 1) + 1) x9.d.number x9.d.text x9.d.items))) i4) fun x10 =>
  chk (I64 ((((k3 + 1) + 1) + 1) + 1)) <|
  bnd (F5 ((((k3 + 1) + 1) + 1) + 1)) fun x11 =>
  bnd (nth ((((a5.set i4.toNat (PInstr.mk k3 x7.a x7.d)).set i4.toNat (PInstr.mk x8.op (k3 + 1) x8.d)).set i4.toNat (PInstr.mk x9.op x9.a (PD.mk ((k3 + 1) + 1) x9.d.number x9.d.text x9.d.items))).set i4.toNat (PInstr.mk x10.op x10.a (PD.mk x10.d.kind (((k3 + 1) + 1) + 1) x10.d.text x10.d.items))) i4) fun x12 =>
  chk (I64 (((((k3 + 1) + 1) + 1) + 1) + 1)) <|
  bnd (nth (((((a5.set i4.toNat (PInstr.mk k3 x7.a x7.d)).set i4.toNat (PInstr.mk x8.op (k3 + 1) x8.d)).set i4.toNat (PInstr.mk x9.op x9.a (PD.mk ((k3 + 1) + 1) x9.d.number x9.d.text x9.d.items))).set i4.toNat (PInstr.mk x10.op x10.a (PD.mk x10.d.kind (((k3 + 1) + 1) + 1) x10.d.text x10.d.items))).set i4.toNat (PInstr.mk x12.op x12.a (PD.mk x12.d.kind x12.d.number x11 x12.d.items))) i4) fun x13 =>
  bnd (n8 RF x13.d.items (((((k3 + 1) + 1) + 1) + 1) + 1)) fun x14 =>
  chk (x14.2.length = x13.d.items.length) <|
  chk (I64 (i4 + 1)) <|
  go6 (x14.1, (i4 + 1), ((((((a5.set i4.toNat (PInstr.mk k3 x7.a x7.d)).set i4.toNat (PInstr.mk x8.op (k3 + 1) x8.d)).set i4.toNat (PInstr.mk x9.op x9.a (PD.mk ((k3 + 1) + 1) x9.d.number x9.d.text x9.d.items))).set i4.toNat (PInstr.mk x10.op x10.a (PD.mk x10.d.kind (((k3 + 1) + 1) + 1) x10.d.text x10.d.items))).set i4.toNat (PInstr.mk x12.op x12.a (PD.mk x12.d.kind x12.d.number x11 x12.d.items))).set i4.toNat (PInstr.mk x13.op x13.a (PD.mk x13.d.kind x13.d.number x13.d.text x14.2))))
 else
  some (k3, a5)
def X3 (a : List PInstr) (go : (Int × Int × List PInstr) → Option (Int × List PInstr)) (v : Int × Int × List PInstr) : Option (Int × List PInstr) :=
 match v with
 | (k3, i4, a5) => u3 a go k3 i4 a5
def Q4 (a : List PInstr) (k : Int) : Option (Int × List PInstr) :=
 itr (X3 a) LF (k, 0, a)
def w6 (go6 : (Int × Int × List PCode) → Option (Int × List PCode)) (k3 : Int) (i4 : Int) (a5 : List PCode) : Option (Int × List PCode) :=
 if i4 < (a5.length : Int) then
  bnd (nth a5 i4) fun x7 =>
  chk (I64 (k3 + 1)) <|
  bnd (nth (a5.set i4.toNat (PCode.mk k3 x7.slots x7.captures x7.instrs)) i4) fun x8 =>
  chk (I64 ((k3 + 1) + 1)) <|
  bnd (nth ((a5.set i4.toNat (PCode.mk k3 x7.slots x7.captures x7.instrs)).set i4.toNat (PCode.mk x8.params (k3 + 1) x8.captures x8.instrs)) i4) fun x9 =>
  chk (I64 (((k3 + 1) + 1) + 1)) <|
  bnd (nth (((a5.set i4.toNat (PCode.mk k3 x7.slots x7.captures x7.instrs)).set i4.toNat (PCode.mk x8.params (k3 + 1) x8.captures x8.instrs)).set i4.toNat (PCode.mk x9.params x9.slots ((k3 + 1) + 1) x9.instrs)) i4) fun x10 =>
  bnd (Q4 x10.instrs (((k3 + 1) + 1) + 1)) fun x11 =>
  chk (x11.2.length = x10.instrs.length) <|
  chk (I64 (i4 + 1)) <|
  go6 (x11.1, (i4 + 1), ((((a5.set i4.toNat (PCode.mk k3 x7.slots x7.captures x7.instrs)).set i4.toNat (PCode.mk x8.params (k3 + 1) x8.captures x8.instrs)).set i4.toNat (PCode.mk x9.params x9.slots ((k3 + 1) + 1) x9.instrs)).set i4.toNat (PCode.mk x10.params x10.slots x10.captures x11.2)))
 else
  some (k3, a5)
def Z4 (go : (Int × Int × List PCode) → Option (Int × List PCode)) (v : Int × Int × List PCode) : Option (Int × List PCode) :=
 match v with
 | (k3, i4, a5) => w6 go k3 i4 a5
def U4 (a : List PCode) (k : Int) : Option (Int × List PCode) :=
 itr Z4 LF (k, 0, a)
def U5 (a : PImage) (k : Int) : Option (Int × List PCode) :=
 bnd (U4 a.codes k) fun x3 =>
 chk (x3.2.length = a.codes.length) <|
 some (x3.1, x3.2)
def D8 (o8 : List PD → Int → Option Int) (a : List PD) (go6 : (Int × Int) → Option Int) (k4 : Int) (i5 : Int) : Option Int :=
 if i5 < (a.length : Int) then
  bnd (nth a i5) fun x7 =>
  if x7.kind = k4 then
   chk (I64 (k4 + 1)) <|
   bnd (nth a i5) fun x8 =>
   if x8.number = (k4 + 1) then
    chk (I64 ((k4 + 1) + 1)) <|
    bnd (nth a i5) fun x9 =>
    bnd (F5 ((k4 + 1) + 1)) fun x10 =>
    if x9.text = x10 then
     chk (I64 (((k4 + 1) + 1) + 1)) <|
     bnd (nth a i5) fun x11 =>
     bnd (o8 x11.items (((k4 + 1) + 1) + 1)) fun x12 =>
     if x12 < 0 then
      some (-1)
     else
      chk (I64 (i5 + 1)) <|
      go6 (x12, (i5 + 1))
    else
     some (-1)
   else
    some (-1)
  else
   some (-1)
 else
  some k4
def dD (o8 : List PD → Int → Option Int) (a : List PD) (go : (Int × Int) → Option Int) (v : Int × Int) : Option Int :=
 match v with
 | (k4, i5) => D8 o8 a go k4 i5
def S8 (o8 : List PD → Int → Option Int) (a : List PD) (k : Int) : Option Int :=
 itr (dD o8 a) LF (k, 0)
def o8 : Nat → List PD → Int → Option Int
 | 0, _, _ => none
 | n + 1, a, k => S8 (o8 n) a k
def D9 (a : List PInstr) (go5 : (Int × Int) → Option Int) (k3 : Int) (i4 : Int) : Option Int :=
 if i4 < (a.length : Int) then
  bnd (nth a i4) fun x6 =>
  if x6.op = k3 then
   chk (I64 (k3 + 1)) <|
   bnd (nth a i4) fun x7 =>
   if x7.a = (k3 + 1) then
    chk (I64 ((k3 + 1) + 1)) <|
    bnd (nth a i4) fun x8 =>
    if x8.d.kind = ((k3 + 1) + 1) then
     chk (I64 (((k3 + 1) + 1) + 1)) <|
     bnd (nth a i4) fun x9 =>
     if x9.d.number = (((k3 + 1) + 1) + 1) then
      chk (I64 ((((k3 + 1) + 1) + 1) + 1)) <|
      bnd (nth a i4) fun x10 =>
      bnd (F5 ((((k3 + 1) + 1) + 1) + 1)) fun x11 =>
      if x10.d.text = x11 then
       chk (I64 (((((k3 + 1) + 1) + 1) + 1) + 1)) <|
       bnd (nth a i4) fun x12 =>
       bnd (o8 RF x12.d.items (((((k3 + 1) + 1) + 1) + 1) + 1)) fun x13 =>
       if x13 < 0 then
        some (-1)
       else
        chk (I64 (i4 + 1)) <|
        go5 (x13, (i4 + 1))
      else
       some (-1)
     else
      some (-1)
    else
     some (-1)
   else
    some (-1)
  else
   some (-1)
 else
  some k3
def dE (a : List PInstr) (go : (Int × Int) → Option Int) (v : Int × Int) : Option Int :=
 match v with
 | (k3, i4) => D9 a go k3 i4
def aM (a : List PInstr) (k : Int) : Option Int :=
 itr (dE a) LF (k, 0)
def G4 (a : List PCode) (go5 : (Int × Int) → Option Int) (k3 : Int) (i4 : Int) : Option Int :=
 if i4 < (a.length : Int) then
  bnd (nth a i4) fun x6 =>
  if x6.params = k3 then
   chk (I64 (k3 + 1)) <|
   bnd (nth a i4) fun x7 =>
   if x7.slots = (k3 + 1) then
    chk (I64 ((k3 + 1) + 1)) <|
    bnd (nth a i4) fun x8 =>
    if x8.captures = ((k3 + 1) + 1) then
     chk (I64 (((k3 + 1) + 1) + 1)) <|
     bnd (nth a i4) fun x9 =>
     bnd (aM x9.instrs (((k3 + 1) + 1) + 1)) fun x10 =>
     if x10 < 0 then
      some (-1)
     else
      chk (I64 (i4 + 1)) <|
      go5 (x10, (i4 + 1))
    else
     some (-1)
   else
    some (-1)
  else
   some (-1)
 else
  some k3
def eJ (a : List PCode) (go : (Int × Int) → Option Int) (v : Int × Int) : Option Int :=
 match v with
 | (k3, i4) => G4 a go k3 i4
def dC (a : List PCode) (k : Int) : Option Int :=
 itr (eJ a) LF (k, 0)
def Y9 (a : PImage) (k : Int) : Option Int :=
 bnd (dC a.codes k) fun x3 =>
 if x3 < 0 then
  some (-1)
 else
  some x3
def N7 (aLines : List (LB)) : Option Bool :=
 bnd (dF aLines 1048576) fun x2 =>
 if x2 < 0 then
  some true
 else
  bnd (J5 aLines) fun x3 =>
  bnd (aD x3) fun x4 =>
  bnd (J5 aLines) fun x5 =>
  bnd (U7 x5) fun x6 =>
  bnd (cZ x6.1 x4.1) fun x7 =>
  if x7 = true then
   if x6.2 = x4.2 then
    bnd (J5 aLines) fun x8 =>
    bnd (dA x5 x8) fun x9 =>
    if x9 = true then
     bnd (X4 x5 1) fun x10 =>
     chk (x10.2.length = x5.length) <|
     if x10.1 < 0 then
      some false
     else
      bnd (cZ x6.1 x4.1) fun x11 =>
      if x11 = true then
       if x6.2 = x4.2 then
        bnd (U5 x6.1 1) fun x12 =>
        chk (x12.2.length = x6.1.codes.length) <|
        bnd (Y9 (PImage.mk x12.2 x6.1.main) 1) fun x13 =>
        if x13 < 0 then
         some false
        else
         if x13 = x12.1 then
          bnd (J5 aLines) fun x14 =>
          bnd (U7 x14) fun x15 =>
          bnd (cZ x15.1 x4.1) fun x16 =>
          if x16 = true then
           if x15.2 = x4.2 then
            bnd (Y9 (PImage.mk x12.2 x6.1.main) 1) fun x17 =>
            if x17 < 0 then
             some false
            else
             if x17 = x12.1 then
              some true
             else
              some false
           else
            some false
          else
           some false
         else
          some false
       else
        some false
      else
       some false
    else
     some false
   else
    some false
  else
   some false
end Go.Abs
