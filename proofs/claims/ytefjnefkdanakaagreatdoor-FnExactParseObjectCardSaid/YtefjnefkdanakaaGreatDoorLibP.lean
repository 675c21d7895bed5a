
import Derived.Test.YtefjnefkdanakaaGreatDoorLibD
import Derived.Test.YtefjnefkdanakaaGreatDoorLibE
import Derived.Test.YtefjnefkdanakaaGreatDoorLibV
set_option linter.unusedVariables false
set_option linter.unusedSimpArgs false
namespace Go.Abs
set_option linter.unusedVariables false
def w8 (x_1 : Int) : Option (LB) :=
 bnd (x_Itoa x_1) fun x2 =>
 some x2
def F0 (s : LB) (go3 : Int → Option Bool) (i2 : Int) : Option Bool :=
 if i2 < (s.length : Int) then
  bnd (nth s i2) fun x4 =>
  if (x4.toNat : Int) < 32 then
   some false
  else
   bnd (nth s i2) fun x5 =>
   if (x5.toNat : Int) > 126 then
    some false
   else
    bnd (nth s i2) fun x6 =>
    if (x6.toNat : Int) = 34 then
     some false
    else
     chk (I64 (i2 + 1)) <|
     go3 (i2 + 1)
 else
  some true
def dS (s : LB) (go : Int → Option Bool) (v : Int) : Option Bool :=
 match v with
 | i2 => F0 s go i2
def T8 (s : LB) : Option Bool :=
 if (s.length : Int) > 20 then
  some false
 else
  itr (dS s) LF 0
def gR (b : Int) : Option Bool :=
 if b ≥ 48 then
  some (decide (b ≤ 57))
 else
  some false
def B0 (b : Int) (x2 : Bool) : Option Bool :=
 if x2 = true then
  some true
 else
  if b = 33 then
   some true
  else
   if b = 63 then
    some true
   else
    if b = 42 then
     some true
    else
     if b = 60 then
      some true
     else
      if b = 62 then
       some true
      else
       if b = 61 then
        some true
       else
        if b = 47 then
         some true
        else
         if b = 43 then
          some true
         else
          if b = 45 then
           some true
          else
           if b = 46 then
            some true
           else
            if b = 95 then
             some true
            else
             some false
def bL (b : Int) : Option Bool :=
 if b ≥ 97 then
  if b ≤ 122 then
   B0 b true
  else
   if b ≥ 48 then
    B0 b (decide (b ≤ 57))
   else
    B0 b false
 else
  if b ≥ 48 then
   B0 b (decide (b ≤ 57))
  else
   B0 b false
def L6 (s : LB) (go4 : Int → Option Bool) (i3 : Int) : Option Bool :=
 if i3 < (s.length : Int) then
  bnd (nth s i3) fun x5 =>
  bnd (bL (x5.toNat : Int)) fun x6 =>
  if x6 = true then
   chk (I64 (i3 + 1)) <|
   go4 (i3 + 1)
  else
   some false
 else
  some true
def iT (s : LB) (go : Int → Option Bool) (v : Int) : Option Bool :=
 match v with
 | i3 => L6 s go i3
def C6 (s : LB) (x2 : Bool) : Option Bool :=
 if x2 = true then
  some false
 else
  itr (iT s) LF 0
def aQ (s : LB) : Option Bool :=
 if (s.length : Int) < 1 then
  C6 s true
 else
  if (s.length : Int) > 16 then
   C6 s true
  else
   bnd (nth s 0) fun x2 =>
   bnd (gR (x2.toNat : Int)) fun x3 =>
   if x3 = true then
    C6 s true
   else
    bnd (nth s 0) fun x4 =>
    if (x4.toNat : Int) = 45 then
     if (s.length : Int) > 1 then
      bnd (nth s 1) fun x5 =>
      bnd (gR (x5.toNat : Int)) fun x6 =>
      C6 s x6
     else
      C6 s false
    else
     C6 s false
def dQ (kind : Int) (number : Int) (text : LB) (items : Int) : Option Bool :=
 if kind = 0 then
  if number = 0 then
   some (decide (text = ([] : LB)))
  else
   some false
 else
  if kind = 1 then
   if number = 0 then
    if items = 0 then
     bnd (aQ text) fun x5 =>
     some x5
    else
     some false
   else
    some false
  else
   if kind = 2 then
    if number ≥ (-999999999) then
     if number ≤ 999999999 then
      if text = ([] : LB) then
       some (decide (items = 0))
      else
       some false
     else
      some false
    else
     some false
   else
    if kind = 3 then
     if number = 0 then
      if text = ([] : LB) then
       some (decide (items = 0))
      else
       some false
     else
      if number = 1 then
       if text = ([] : LB) then
        some (decide (items = 0))
       else
        some false
      else
       some false
    else
     if kind = 4 then
      if number = 0 then
       if items = 0 then
        bnd (T8 text) fun x5 =>
        some x5
       else
        some false
      else
       some false
     else
      some false
def P8 (z8 : PD → Int → Int → Option (Bool × Int)) (d : PD) (deep : Int) (go8 : (Int × Int) → Option (Bool × Int)) (x6 : Int) (nodes7 : Int) : Option (Bool × Int) :=
 if x6 < (d.items.length : Int) then
  bnd (nth d.items x6) fun x9 =>
  chk (I64 (deep + 1)) <|
  bnd (z8 x9 (deep + 1) nodes7) fun x10 =>
  if x10.1 = true then
   chk (I64 (x6 + 1)) <|
   go8 ((x6 + 1), x10.2)
  else
   some (false, x10.2)
 else
  some (true, nodes7)
def kQ (z8 : PD → Int → Int → Option (Bool × Int)) (d : PD) (deep : Int) (go : (Int × Int) → Option (Bool × Int)) (v : Int × Int) : Option (Bool × Int) :=
 match v with
 | (x6, nodes7) => P8 z8 d deep go x6 nodes7
def dL (z8 : PD → Int → Int → Option (Bool × Int)) (d : PD) (deep : Int) (nodes : Int) : Option (Bool × Int) :=
 chk (I64 (nodes + 1)) <|
 if deep > 20 then
  some (false, (nodes + 1))
 else
  if (nodes + 1) > 600 then
   some (false, (nodes + 1))
  else
   bnd (dQ d.kind d.number d.text (d.items.length : Int)) fun x5 =>
   if x5 = true then
    itr (kQ z8 d deep) LF (0, (nodes + 1))
   else
    some (false, (nodes + 1))
def z8 : Nat → PD → Int → Int → Option (Bool × Int)
 | 0, _, _, _ => none
 | n + 1, d, deep, nodes => dL (z8 n) d deep nodes
def gK (d : PD) : Option Bool :=
 bnd (z8 RF d 1 0) fun x2 =>
 some x2.1
def I6 (p8 : LB → PD → Option (LB)) (x4 : Int) (go6 : (Int × LB) → Option (LB)) (x7 : PD) (out8 : LB) : Option (LB) :=
 bnd (p8 out8 x7) fun x9 =>
 chk (I64 (x4 + 1)) <|
 go6 ((x4 + 1), x9)
def R5 (p8 : LB → PD → Option (LB)) (d : PD) (go6 : (Int × LB) → Option (LB)) (x4 : Int) (out5 : LB) : Option (LB) :=
 if x4 < (d.items.length : Int) then
  bnd (nth d.items x4) fun x7 =>
  if x4 > 0 then
   chk ((out5.length + ([32] : LB).length) * 1 ≤ 140737488355328) <|
   I6 p8 x4 go6 x7 (out5 ++ ([32] : LB))
  else
   I6 p8 x4 go6 x7 out5
 else
  chk ((out5.length + ([41] : LB).length) * 1 ≤ 140737488355328) <|
  some (out5 ++ ([41] : LB))
def dU (p8 : LB → PD → Option (LB)) (d : PD) (go : (Int × LB) → Option (LB)) (v : Int × LB) : Option (LB) :=
 match v with
 | (x4, out5) => R5 p8 d go x4 out5
def W0 (p8 : LB → PD → Option (LB)) (out : LB) (d : PD) : Option (LB) :=
 if d.kind = 1 then
  chk ((out.length + d.text.length) * 1 ≤ 140737488355328) <|
  some (out ++ d.text)
 else
  if d.kind = 2 then
   bnd (w8 d.number) fun x4 =>
   chk ((out.length + x4.length) * 1 ≤ 140737488355328) <|
   some (out ++ x4)
  else
   if d.kind = 3 then
    if d.number = 1 then
     chk ((out.length + ([35, 116] : LB).length) * 1 ≤ 140737488355328) <|
     some (out ++ ([35, 116] : LB))
    else
     chk ((out.length + ([35, 102] : LB).length) * 1 ≤ 140737488355328) <|
     some (out ++ ([35, 102] : LB))
   else
    if d.kind = 4 then
     chk ((out.length + ([34] : LB).length) * 1 ≤ 140737488355328) <|
     chk (((out ++ ([34] : LB)).length + d.text.length) * 1 ≤ 140737488355328) <|
     chk ((((out ++ ([34] : LB)) ++ d.text).length + ([34] : LB).length) * 1 ≤ 140737488355328) <|
     some (((out ++ ([34] : LB)) ++ d.text) ++ ([34] : LB))
    else
     chk ((out.length + ([40] : LB).length) * 1 ≤ 140737488355328) <|
     itr (dU p8 d) LF (0, (out ++ ([40] : LB)))
def p8 : Nat → LB → PD → Option (LB)
 | 0, _, _ => none
 | n + 1, out, d => W0 (p8 n) out d
def Z8 (d : PD) : Option (LB) :=
 bnd (gK d) fun x2 =>
 if x2 = true then
  bnd (p8 RF [] d) fun x3 =>
  some x3
 else
  some ([] : LB)
def aA (op : Int) : Option (LB) :=
 if op < 1 then
  some ([] : LB)
 else
  if op > 20 then
   some ([] : LB)
  else
   chk (I64 (op - 1)) <|
   bnd (nth G3 (op - 1)) fun x2 =>
   some x2
def dF (u3 : PD → PD → Option Bool) (a : PD) (b : PD) (go5 : Int → Option Bool) (x4 : Int) : Option Bool :=
 if x4 < (a.items.length : Int) then
  bnd (nth a.items x4) fun x6 =>
  bnd (nth b.items x4) fun x7 =>
  bnd (u3 x6 x7) fun x8 =>
  if x8 = true then
   chk (I64 (x4 + 1)) <|
   go5 (x4 + 1)
  else
   some false
 else
  some true
def fM (u3 : PD → PD → Option Bool) (a : PD) (b : PD) (go : Int → Option Bool) (v : Int) : Option Bool :=
 match v with
 | x4 => dF u3 a b go x4
def Z7 (u3 : PD → PD → Option Bool) (a : PD) (b : PD) : Option Bool :=
 if a.kind = b.kind then
  if a.number = b.number then
   if a.text = b.text then
    if (a.items.length : Int) = (b.items.length : Int) then
     itr (fM u3 a b) LF 0
    else
     some false
   else
    some false
  else
   some false
 else
  some false
def u3 : Nat → PD → PD → Option Bool
 | 0, _, _ => none
 | n + 1, a, b => Z7 (u3 n) a b
def gQ (x_1 : PInstr) : Option Bool :=
 if x_1.op < 1 then
  some false
 else
  if x_1.op > 20 then
   some false
  else
   if x_1.op = 1 then
    if x_1.a = 0 then
     bnd (gK x_1.d) fun x2 =>
     some x2
    else
     some false
   else
    bnd (u3 RF x_1.d (PD.mk 0 0 ([] : LB) [])) fun x2 =>
    if x2 = true then
     if x_1.a < 0 then
      some false
     else
      if x_1.a > 4000 then
       some false
      else
       if x_1.a = 0 then
        some true
       else
        if x_1.op = 14 then
         some false
        else
         some (!decide (x_1.op = 17))
    else
     some false
def C5 (x_1 : PInstr) : Option (LB) :=
 bnd (gQ x_1) fun x2 =>
 if x2 = true then
  if x_1.op = 1 then
   bnd (aA x_1.op) fun x3 =>
   chk (x3.length + ([32] : LB).length ≤ 9223372036854775807) <|
   bnd (Z8 x_1.d) fun x4 =>
   chk ((x3 ++ ([32] : LB)).length + x4.length ≤ 9223372036854775807) <|
   some ((x3 ++ ([32] : LB)) ++ x4)
  else
   if x_1.op = 14 then
    bnd (aA x_1.op) fun x3 =>
    some x3
   else
    if x_1.op = 17 then
     bnd (aA x_1.op) fun x3 =>
     some x3
    else
     bnd (aA x_1.op) fun x3 =>
     chk (x3.length + ([32] : LB).length ≤ 9223372036854775807) <|
     bnd (w8 x_1.a) fun x4 =>
     chk ((x3 ++ ([32] : LB)).length + x4.length ≤ 9223372036854775807) <|
     some ((x3 ++ ([32] : LB)) ++ x4)
 else
  some ([] : LB)
def P7 (s : LB) : Option (Int × Bool) :=
 if (s.length : Int) = 0 then
  some (0, false)
 else
  if (s.length : Int) > 10 then
   some (0, false)
  else
   bnd (x_Atoi s) fun x2 =>
   if x2.2 = true then
    some (0, false)
   else
    if x2.1 < (-999999999) then
     some (0, false)
    else
     if x2.1 > 999999999 then
      some (0, false)
     else
      bnd (w8 x2.1) fun x3 =>
      if x3 = s then
       some (x2.1, true)
      else
       some (0, false)
def C9 (go3 : PRdI → Option PRdI) (r6 : PRdI) (go7 : PRdI → Option PRdI) (x8 : Bool) : Option PRdI :=
 if x8 = true then
  chk (I64 (r6.pos + 1)) <|
  go7 (PRdI.mk r6.src (r6.pos + 1) r6.nodes)
 else
  go3 r6
def A1 (go3 : PRdI → Option PRdI) (go7 : PRdI → Option PRdI) (r6 : PRdI) : Option PRdI :=
 if r6.pos < (r6.src.length : Int) then
  bnd (nth r6.src r6.pos) fun x8 =>
  C9 go3 r6 go7 (!decide ((x8.toNat : Int) = 10))
 else
  C9 go3 r6 go7 false
def cG (go3 : PRdI → Option PRdI) (go : PRdI → Option PRdI) (v : PRdI) : Option PRdI :=
 match v with
 | r6 => A1 go3 go r6
def B4 (r2 : PRdI) (go3 : PRdI → Option PRdI) (x4 : UInt8) (x5 : Bool) : Option PRdI :=
 if x5 = true then
  chk (I64 (r2.pos + 1)) <|
  go3 (PRdI.mk r2.src (r2.pos + 1) r2.nodes)
 else
  if (x4.toNat : Int) = 59 then
   itr (cG go3) LF r2
  else
   some r2
def v6 (go3 : PRdI → Option PRdI) (r2 : PRdI) : Option PRdI :=
 if r2.pos < (r2.src.length : Int) then
  bnd (nth r2.src r2.pos) fun x4 =>
  if (x4.toNat : Int) = 32 then
   B4 r2 go3 x4 true
  else
   if (x4.toNat : Int) = 10 then
    B4 r2 go3 x4 true
   else
    B4 r2 go3 x4 (decide ((x4.toNat : Int) = 9))
 else
  some r2
def cF (go : PRdI → Option PRdI) (v : PRdI) : Option PRdI :=
 match v with
 | r2 => v6 go r2
def P9 (r : PRdI) : Option PRdI :=
 itr cF LF r
def kP (b : Int) : Option Bool :=
 if b = 32 then
  some true
 else
  if b = 10 then
   some true
  else
   if b = 9 then
    some true
   else
    if b = 40 then
     some true
    else
     if b = 41 then
      some true
     else
      if b = 34 then
       some true
      else
       if b = 59 then
        some true
       else
        if b = 39 then
         some true
        else
         some false
def mQ (s : LB) : Option (PD × Bool) :=
 bnd (P7 s) fun x2 =>
 if x2.2 = true then
  some ((PD.mk 2 x2.1 ([] : LB) []), true)
 else
  if s = ([35, 116] : LB) then
   some ((PD.mk 3 1 ([] : LB) []), true)
  else
   if s = ([35, 102] : LB) then
    some ((PD.mk 3 0 ([] : LB) []), true)
   else
    bnd (aQ s) fun x3 =>
    if x3 = true then
     some ((PD.mk 1 0 s []), true)
    else
     some ((PD.mk 0 0 ([] : LB) []), false)
def K1 (k9 : PRdI → Option (PD × Bool × PRdI)) (go7 : (PRdI × List PD) → Option (PD × Bool × PRdI)) (r5 : PRdI) (items6 : List PD) : Option (PD × Bool × PRdI) :=
 bnd (P9 r5) fun x8 =>
 if x8.pos ≥ (x8.src.length : Int) then
  some ((PD.mk 0 0 ([] : LB) []), false, x8)
 else
  bnd (nth x8.src x8.pos) fun x9 =>
  if (x9.toNat : Int) = 41 then
   chk (I64 (x8.pos + 1)) <|
   some ((PD.mk 0 0 ([] : LB) items6), true, (PRdI.mk x8.src (x8.pos + 1) x8.nodes))
  else
   bnd (k9 x8) fun x10 =>
   if x10.2.1 = true then
    chk ((items6.length + ([x10.1] : List PD).length) * 56 ≤ 140737488355328) <|
    go7 (x10.2.2, (items6 ++ ([x10.1] : List PD)))
   else
    some ((PD.mk 0 0 ([] : LB) []), false, x10.2.2)
def r8 (k9 : PRdI → Option (PD × Bool × PRdI)) (go : (PRdI × List PD) → Option (PD × Bool × PRdI)) (v : PRdI × List PD) : Option (PD × Bool × PRdI) :=
 match v with
 | (r5, items6) => K1 k9 go r5 items6
def y6 (x3 : PRdI) (go6 : Int → Option (PD × Bool × PRdI)) (i5 : Int) : Option (PD × Bool × PRdI) :=
 if i5 < (x3.src.length : Int) then
  bnd (nth x3.src i5) fun x7 =>
  if (x7.toNat : Int) = 34 then
   chk (I64 (i5 + 1)) <|
   chk (0 ≤ (x3.pos + 1) ∧ (x3.pos + 1) ≤ i5 ∧ i5 ≤ x3.src.length) <|
   chk (0 ≤ (x3.pos + 1) ∧ (x3.pos + 1) ≤ i5 ∧ i5 ≤ x3.src.length) <|
   bnd (T8 ((x3.src.take i5.toNat).drop (x3.pos + 1).toNat)) fun x8 =>
   some ((PD.mk 4 0 ((x3.src.take i5.toNat).drop (x3.pos + 1).toNat) []), x8, (PRdI.mk x3.src (i5 + 1) (x3.nodes + 1)))
  else
   chk (I64 (i5 + 1)) <|
   go6 (i5 + 1)
 else
  some ((PD.mk 0 0 ([] : LB) []), false, (PRdI.mk x3.src x3.pos (x3.nodes + 1)))
def O1 (x3 : PRdI) (go : Int → Option (PD × Bool × PRdI)) (v : Int) : Option (PD × Bool × PRdI) :=
 match v with
 | i5 => y6 x3 go i5
def B8 (x3 : PRdI) (r5 : PRdI) (go6 : PRdI → Option (PD × Bool × PRdI)) (x7 : Bool) : Option (PD × Bool × PRdI) :=
 if x7 = true then
  chk (I64 (r5.pos + 1)) <|
  go6 (PRdI.mk r5.src (r5.pos + 1) r5.nodes)
 else
  chk (0 ≤ x3.pos ∧ x3.pos ≤ r5.pos ∧ r5.pos ≤ r5.src.length) <|
  bnd (mQ ((r5.src.take r5.pos.toNat).drop x3.pos.toNat)) fun x8 =>
  some (x8.1, x8.2, r5)
def y7 (x3 : PRdI) (go6 : PRdI → Option (PD × Bool × PRdI)) (r5 : PRdI) : Option (PD × Bool × PRdI) :=
 if r5.pos < (r5.src.length : Int) then
  bnd (nth r5.src r5.pos) fun x7 =>
  bnd (kP (x7.toNat : Int)) fun x8 =>
  B8 x3 r5 go6 (!x8)
 else
  B8 x3 r5 go6 false
def O2 (x3 : PRdI) (go : PRdI → Option (PD × Bool × PRdI)) (v : PRdI) : Option (PD × Bool × PRdI) :=
 match v with
 | r5 => y7 x3 go r5
def l9 (k9 : PRdI → Option (PD × Bool × PRdI)) (r : PRdI) : Option (PD × Bool × PRdI) :=
 bnd (P9 r) fun x3 =>
 chk (I64 (x3.nodes + 1)) <|
 if x3.pos ≥ (x3.src.length : Int) then
  some ((PD.mk 0 0 ([] : LB) []), false, (PRdI.mk x3.src x3.pos (x3.nodes + 1)))
 else
  if (x3.nodes + 1) > 600 then
   some ((PD.mk 0 0 ([] : LB) []), false, (PRdI.mk x3.src x3.pos (x3.nodes + 1)))
  else
   bnd (nth x3.src x3.pos) fun x4 =>
   if (x4.toNat : Int) = 40 then
    chk (I64 (x3.pos + 1)) <|
    itr (r8 k9) LF ((PRdI.mk x3.src (x3.pos + 1) (x3.nodes + 1)), [])
   else
    if (x4.toNat : Int) = 41 then
     some ((PD.mk 0 0 ([] : LB) []), false, (PRdI.mk x3.src x3.pos (x3.nodes + 1)))
    else
     if (x4.toNat : Int) = 39 then
      chk (I64 (x3.pos + 1)) <|
      chk (I64 ((x3.nodes + 1) + 1)) <|
      bnd (k9 (PRdI.mk x3.src (x3.pos + 1) ((x3.nodes + 1) + 1))) fun x5 =>
      if x5.2.1 = true then
       some ((PD.mk 0 0 ([] : LB) ([(PD.mk 1 0 ([113, 117, 111, 116, 101] : LB) []), x5.1] : List PD)), true, x5.2.2)
      else
       some ((PD.mk 0 0 ([] : LB) []), false, x5.2.2)
     else
      if (x4.toNat : Int) = 34 then
       chk (I64 (x3.pos + 1)) <|
       itr (O1 x3) LF (x3.pos + 1)
      else
       itr (O2 x3) LF (PRdI.mk x3.src x3.pos (x3.nodes + 1))
def k9 : Nat → PRdI → Option (PD × Bool × PRdI)
 | 0, _ => none
 | n + 1, r => l9 (k9 n) r
def P4 (list : List PD) (go4 : (Int × Int) → Option Bool) (x2 : Int) (nodes3 : Int) : Option Bool :=
 if x2 < (list.length : Int) then
  bnd (nth list x2) fun x5 =>
  bnd (z8 RF x5 1 nodes3) fun x6 =>
  if x6.1 = true then
   chk (I64 (x2 + 1)) <|
   go4 ((x2 + 1), x6.2)
  else
   some false
 else
  some true
def kN (list : List PD) (go : (Int × Int) → Option Bool) (v : Int × Int) : Option Bool :=
 match v with
 | (x2, nodes3) => P4 list go x2 nodes3
def kM (list : List PD) : Option Bool :=
 itr (kN list) LF (0, 0)
def T6 (source : LB) (go4 : (PRdI × List PD) → Option (List PD × Bool)) (r2 : PRdI) (out3 : List PD) : Option (List PD × Bool) :=
 bnd (P9 r2) fun x5 =>
 if x5.pos ≥ (source.length : Int) then
  bnd (kM out3) fun x6 =>
  if x6 = true then
   some (out3, true)
  else
   some ([], false)
 else
  bnd (k9 RF x5) fun x6 =>
  if x6.2.1 = true then
   chk ((out3.length + ([x6.1] : List PD).length) * 56 ≤ 140737488355328) <|
   go4 (x6.2.2, (out3 ++ ([x6.1] : List PD)))
  else
   some ([], false)
def bB (source : LB) (go : (PRdI × List PD) → Option (List PD × Bool)) (v : PRdI × List PD) : Option (List PD × Bool) :=
 match v with
 | (r2, out3) => T6 source go r2 out3
def dI (source : LB) : Option (List PD × Bool) :=
 if (source.length : Int) > 15000 then
  some ([], false)
 else
  itr (bB source) LF ((PRdI.mk source 0 0), [])
def R3 (s : LB) (x2 : LB × LB × Bool) (go4 : Int → Option (PInstr × Bool)) (op3 : Int) : Option (PInstr × Bool) :=
 if op3 ≤ 20 then
  bnd (aA op3) fun x5 =>
  if x5 = x2.1 then
   if op3 = 1 then
    bnd (dI x2.2.1) fun x6 =>
    if x6.2 = true then
     if (x6.1.length : Int) = 1 then
      bnd (nth x6.1 0) fun x7 =>
      bnd (C5 (PInstr.mk op3 0 x7)) fun x8 =>
      if x8 = s then
       some ((PInstr.mk op3 0 x7), true)
      else
       some ((PInstr.mk 0 0 (PD.mk 0 0 ([] : LB) [])), false)
     else
      some ((PInstr.mk 0 0 (PD.mk 0 0 ([] : LB) [])), false)
    else
     some ((PInstr.mk 0 0 (PD.mk 0 0 ([] : LB) [])), false)
   else
    bnd (P7 x2.2.1) fun x6 =>
    bnd (C5 (PInstr.mk op3 x6.1 (PD.mk 0 0 ([] : LB) []))) fun x7 =>
    if x7 = s then
     some ((PInstr.mk op3 x6.1 (PD.mk 0 0 ([] : LB) [])), true)
    else
     some ((PInstr.mk 0 0 (PD.mk 0 0 ([] : LB) [])), false)
  else
   chk (I64 (op3 + 1)) <|
   go4 (op3 + 1)
 else
  some ((PInstr.mk 0 0 (PD.mk 0 0 ([] : LB) [])), false)
def aB (s : LB) (x2 : LB × LB × Bool) (go : Int → Option (PInstr × Bool)) (v : Int) : Option (PInstr × Bool) :=
 match v with
 | op3 => R3 s x2 go op3
def bK (s : LB) : Option (PInstr × Bool) :=
 bnd (x_Cut s ([32] : LB)) fun x2 =>
 itr (aB s x2) LF 1
end Go.Abs

namespace Go.Abs
set_option linter.unusedVariables false
def R4 : Option (List (LB)) :=
 some ([([43] : LB), ([45] : LB), ([42] : LB), ([61] : LB), ([60] : LB), ([99, 111, 110, 115] : LB), ([99, 97, 114] : LB), ([99, 100, 114] : LB), ([110, 117, 108, 108, 63] : LB), ([112, 97, 105, 114, 63] : LB), ([110, 117, 109, 98, 101, 114, 63] : LB), ([101, 113, 63] : LB), ([110, 111, 116] : LB), ([100, 105, 115, 112, 108, 97, 121] : LB)] : List (LB))
def R9 (m : PImage) (k : Int) (x_1 : PInstr) (x5 : Bool) : Option Bool :=
 if x5 = true then
  if x_1.a < k then
   bnd (nth m.codes x_1.a) fun x6 =>
   some (decide (x6.params = 0))
  else
   some false
 else
  if x_1.op = 19 then
   if x_1.a < k then
    bnd (nth m.codes x_1.a) fun x6 =>
    some (decide (x6.params = 1))
   else
    some false
  else
   if x_1.op = 12 then
    some (decide (x_1.a ≤ 8))
   else
    if x_1.op = 13 then
     some (decide (x_1.a ≤ 8))
    else
     some true
def dP (m : PImage) (c : PCode) (k : Int) (x_1 : PInstr) : Option Bool :=
 if x_1.op = 2 then
  bnd (R4) fun x5 =>
  some (decide (x_1.a < (x5.length : Int)))
 else
  if x_1.op = 3 then
   some (decide (x_1.a < c.slots))
  else
   if x_1.op = 5 then
    some (decide (x_1.a < c.slots))
   else
    if x_1.op = 7 then
     some (decide (x_1.a < c.slots))
    else
     if x_1.op = 9 then
      if x_1.a ≥ c.params then
       some (decide (x_1.a < c.slots))
      else
       some false
     else
      if x_1.op = 10 then
       some (decide (x_1.a < c.params))
      else
       if x_1.op = 4 then
        some (decide (x_1.a < c.captures))
       else
        if x_1.op = 6 then
         some (decide (x_1.a < c.captures))
        else
         if x_1.op = 8 then
          some (decide (x_1.a < c.captures))
         else
          if x_1.op = 11 then
           some (decide (x_1.a < k))
          else
           if x_1.op = 18 then
            R9 m k x_1 true
           else
            R9 m k x_1 (decide (x_1.op = 20))
def T7 (m : PImage) (k : Int) (x3 : PCode) (go5 : Int → Option Bool) (x4 : Int) : Option Bool :=
 if x4 < (x3.instrs.length : Int) then
  bnd (nth x3.instrs x4) fun x6 =>
  bnd (gQ x6) fun x7 =>
  if x7 = true then
   bnd (dP m x3 k x6) fun x8 =>
   if x8 = true then
    chk (I64 (x4 + 1)) <|
    go5 (x4 + 1)
   else
    some false
  else
   some false
 else
  some true
def oA (m : PImage) (k : Int) (x3 : PCode) (go : Int → Option Bool) (v : Int) : Option Bool :=
 match v with
 | x4 => T7 m k x3 go x4
def pQ (m : PImage) (k : Int) : Option Bool :=
 bnd (nth m.codes k) fun x3 =>
 if x3.params < 0 then
  some false
 else
  if x3.params > 8 then
   some false
  else
   if x3.slots < x3.params then
    some false
   else
    if x3.slots > 500 then
     some false
    else
     if x3.captures < 0 then
      some false
     else
      if x3.captures > 500 then
       some false
      else
       if (x3.instrs.length : Int) < 1 then
        some false
       else
        if (x3.instrs.length : Int) > 4000 then
         some false
        else
         itr (oA m k x3) LF 0
def pR (m : PImage) (x_1 : PInstr) : Option (Int × Int) :=
 if x_1.op = 1 then
  some (0, 1)
 else
  if x_1.op = 2 then
   some (0, 1)
  else
   if x_1.op = 3 then
    some (0, 1)
   else
    if x_1.op = 4 then
     some (0, 1)
    else
     if x_1.op = 5 then
      some (0, 1)
     else
      if x_1.op = 6 then
       some (0, 1)
      else
       if x_1.op = 7 then
        some (1, 1)
       else
        if x_1.op = 8 then
         some (1, 1)
        else
         if x_1.op = 11 then
          bnd (nth m.codes x_1.a) fun x3 =>
          some (x3.captures, 1)
         else
          if x_1.op = 18 then
           bnd (nth m.codes x_1.a) fun x3 =>
           some (x3.captures, 1)
          else
           if x_1.op = 19 then
            bnd (nth m.codes x_1.a) fun x3 =>
            some (x3.captures, 1)
           else
            if x_1.op = 20 then
             bnd (nth m.codes x_1.a) fun x3 =>
             some (x3.captures, 1)
            else
             if x_1.op = 12 then
              chk (I64 (x_1.a + 1)) <|
              some ((x_1.a + 1), 1)
             else
              if x_1.op = 13 then
               chk (I64 (x_1.a + 1)) <|
               some ((x_1.a + 1), 0)
              else
               if x_1.op = 14 then
                some (1, 0)
               else
                if x_1.op = 17 then
                 some (1, 0)
                else
                 if x_1.op = 16 then
                  some (1, 0)
                 else
                  some (0, 0)
def G5 (x8 : Int) (go10 : (Int × LI) → Option (LI × Bool)) (out11 : LI) : Option (LI × Bool) :=
 chk (I64 (x8 + 1)) <|
 go10 ((x8 + 1), out11)
def J9 (x13 : Int × Int) (x15 : Int) (x17 : Int) (out18 : LI) (go19 : (Int × LI) → Option (LI × Bool)) (x20 : Int) (x21 : Bool) : Option (LI × Bool) :=
 if x21 = true then
  some ([], false)
 else
  bnd (nth out18 x20) fun x22 =>
  chk (I64 (x17 + 1)) <|
  go19 ((x17 + 1), (out18.set x20.toNat ((x15 - x13.1) + x13.2)))
def L9 (x3 : PCode) (x8 : Int) (go10 : (Int × LI) → Option (LI × Bool)) (x13 : Int × Int) (x15 : Int) (next16 : LI) (go19 : (Int × LI) → Option (LI × Bool)) (x17 : Int) (out18 : LI) : Option (LI × Bool) :=
 if x17 < (next16.length : Int) then
  bnd (nth next16 x17) fun x20 =>
  if x20 ≤ x8 then
   J9 x13 x15 x17 out18 go19 x20 true
  else
   if x20 ≥ (x3.instrs.length : Int) then
    J9 x13 x15 x17 out18 go19 x20 true
   else
    bnd (nth out18 x20) fun x21 =>
    if x21 ≥ 0 then
     bnd (nth out18 x20) fun x22 =>
     J9 x13 x15 x17 out18 go19 x20 (!decide (x22 = ((x15 - x13.1) + x13.2)))
    else
     J9 x13 x15 x17 out18 go19 x20 false
 else
  G5 x8 go10 out18
def cP (x3 : PCode) (x8 : Int) (go10 : (Int × LI) → Option (LI × Bool)) (x13 : Int × Int) (x15 : Int) (next16 : LI) (go : (Int × LI) → Option (LI × Bool)) (v : Int × LI) : Option (LI × Bool) :=
 match v with
 | (x17, out18) => L9 x3 x8 go10 x13 x15 next16 go x17 out18
def E4 (x3 : PCode) (x8 : Int) (out9 : LI) (go10 : (Int × LI) → Option (LI × Bool)) (x13 : Int × Int) (x15 : Int) (next16 : LI) : Option (LI × Bool) :=
 itr (cP x3 x8 go10 x13 x15 next16) LF (0, out9)
def V1 (x3 : PCode) (x8 : Int) (out9 : LI) (go10 : (Int × LI) → Option (LI × Bool)) (x11 : PInstr) (x13 : Int × Int) (x15 : Int) (x16 : Bool) : Option (LI × Bool) :=
 if x16 = true then
  if ((x15 - x13.1) + x13.2) = 0 then
   E4 x3 x8 out9 go10 x13 x15 []
  else
   some ([], false)
 else
  if x11.op = 15 then
   E4 x3 x8 out9 go10 x13 x15 ([x11.a] : LI)
  else
   if x11.op = 16 then
    chk (I64 (x8 + 1)) <|
    E4 x3 x8 out9 go10 x13 x15 ([(x8 + 1), x11.a] : LI)
   else
    chk (I64 (x8 + 1)) <|
    E4 x3 x8 out9 go10 x13 x15 ([(x8 + 1)] : LI)
def L8 (m : PImage) (x3 : PCode) (go10 : (Int × LI) → Option (LI × Bool)) (x8 : Int) (out9 : LI) : Option (LI × Bool) :=
 if x8 < (x3.instrs.length : Int) then
  bnd (nth x3.instrs x8) fun x11 =>
  bnd (nth out9 x8) fun x12 =>
  if x12 < 0 then
   G5 x8 go10 out9
  else
   bnd (pR m x11) fun x13 =>
   bnd (nth out9 x8) fun x14 =>
   if x13.1 > x14 then
    some ([], false)
   else
    bnd (nth out9 x8) fun x15 =>
    chk (I64 (x15 - x13.1)) <|
    chk (I64 ((x15 - x13.1) + x13.2)) <|
    if ((x15 - x13.1) + x13.2) > 500 then
     some ([], false)
    else
     if x11.op = 14 then
      V1 x3 x8 out9 go10 x11 x13 x15 true
     else
      V1 x3 x8 out9 go10 x11 x13 x15 (decide (x11.op = 13))
 else
  some (out9, true)
def cO (m : PImage) (x3 : PCode) (go : (Int × LI) → Option (LI × Bool)) (v : Int × LI) : Option (LI × Bool) :=
 match v with
 | (x8, out9) => L8 m x3 go x8 out9
def L7 (m : PImage) (x3 : PCode) (go6 : (Int × LI) → Option (LI × Bool)) (x4 : Int) (out5 : LI) : Option (LI × Bool) :=
 if x4 < ((List.replicate (x3.instrs.length : Int).toNat (0 : Int)).length : Int) then
  bnd (nth out5 x4) fun x7 =>
  chk (I64 (x4 + 1)) <|
  go6 ((x4 + 1), (out5.set x4.toNat (-1)))
 else
  bnd (nth out5 0) fun x7 =>
  itr (cO m x3) LF (0, (out5.set (0 : Int).toNat 0))
def iW (m : PImage) (x3 : PCode) (go : (Int × LI) → Option (LI × Bool)) (v : Int × LI) : Option (LI × Bool) :=
 match v with
 | (x4, out5) => L7 m x3 go x4 out5
def gO (m : PImage) (code : Int) : Option (LI × Bool) :=
 bnd (nth m.codes code) fun x3 =>
 chk (0 ≤ (x3.instrs.length : Int) ∧ (8 : Nat) * (x3.instrs.length : Int) ≤ 281474976710656 ∧ (x3.instrs.length : Int) ≤ 281474976710656) <|
 itr (iW m x3) LF (0, (List.replicate (x3.instrs.length : Int).toNat (0 : Int)))
def dM (op : Int) : Option Bool :=
 if op = 11 then
  some true
 else
  if op = 18 then
   some true
  else
   if op = 19 then
    some true
   else
    some (decide (op = 20))
def Y2 (x12 : Int) (go14 : (Int × LI) → Option Bool) (named15 : LI) : Option Bool :=
 chk (I64 (x12 + 1)) <|
 go14 ((x12 + 1), named15)
def P5 (total5 : Int) (x6 : Int) (go8 : (Int × Int × LI) → Option Bool) (x9 : PCode) (go14 : (Int × LI) → Option Bool) (x12 : Int) (named13 : LI) : Option Bool :=
 if x12 < (x9.instrs.length : Int) then
  bnd (nth x9.instrs x12) fun x15 =>
  bnd (dM x15.op) fun x16 =>
  if x16 = true then
   bnd (nth named13 x15.a) fun x17 =>
   chk (I64 (x17 + 1)) <|
   bnd (nth named13 x15.a) fun x18 =>
   Y2 x12 go14 (named13.set x15.a.toNat (x17 + 1))
  else
   Y2 x12 go14 named13
 else
  chk (I64 (x6 + 1)) <|
  go8 ((total5 + (x9.instrs.length : Int)), (x6 + 1), named13)
def fA (total5 : Int) (x6 : Int) (go8 : (Int × Int × LI) → Option Bool) (x9 : PCode) (go : (Int × LI) → Option Bool) (v : Int × LI) : Option Bool :=
 match v with
 | (x12, named13) => P5 total5 x6 go8 x9 go x12 named13
def P6 (m : PImage) (total5 : Int) (named7 : LI) (go10 : Int → Option Bool) (x9 : Int) : Option Bool :=
 if x9 < ((named7.take ((m.codes.length : Int) - 1).toNat).length : Int) then
  bnd (nth (named7.take ((m.codes.length : Int) - 1).toNat) x9) fun x11 =>
  if x11 = 1 then
   chk (I64 (x9 + 1)) <|
   go10 (x9 + 1)
  else
   some false
 else
  some (decide (total5 ≤ 16000))
def fB (m : PImage) (total5 : Int) (named7 : LI) (go : Int → Option Bool) (v : Int) : Option Bool :=
 match v with
 | x9 => P6 m total5 named7 go x9
def Z9 (m : PImage) (go8 : (Int × Int × LI) → Option Bool) (total5 : Int) (x6 : Int) (named7 : LI) : Option Bool :=
 if x6 < (m.codes.length : Int) then
  bnd (nth m.codes x6) fun x9 =>
  bnd (pQ m x6) fun x10 =>
  if x10 = true then
   bnd (gO m x6) fun x11 =>
   if x11.2 = true then
    chk (I64 (total5 + (x9.instrs.length : Int))) <|
    itr (fA total5 x6 go8 x9) LF (0, named7)
   else
    some false
  else
   some false
 else
  chk (I64 ((m.codes.length : Int) - 1)) <|
  chk (0 ≤ ((m.codes.length : Int) - 1) ∧ ((m.codes.length : Int) - 1) ≤ named7.length) <|
  itr (fB m total5 named7) LF 0
def kO (m : PImage) (go : (Int × Int × LI) → Option Bool) (v : Int × Int × LI) : Option Bool :=
 match v with
 | (total5, x6, named7) => Z9 m go total5 x6 named7
def gL (m : PImage) (captures : Int) : Option Bool :=
 if (m.codes.length : Int) < 1 then
  some false
 else
  if (m.codes.length : Int) > 1500 then
   some false
  else
   chk (I64 ((m.codes.length : Int) - 1)) <|
   if m.main = ((m.codes.length : Int) - 1) then
    chk (I64 ((m.codes.length : Int) - 1)) <|
    bnd (nth m.codes ((m.codes.length : Int) - 1)) fun x3 =>
    if x3.params = 0 then
     chk (I64 ((m.codes.length : Int) - 1)) <|
     bnd (nth m.codes ((m.codes.length : Int) - 1)) fun x4 =>
     if x4.captures = captures then
      chk (0 ≤ (m.codes.length : Int) ∧ (8 : Nat) * (m.codes.length : Int) ≤ 281474976710656 ∧ (m.codes.length : Int) ≤ 281474976710656) <|
      itr (kO m) LF (0, 0, (List.replicate (m.codes.length : Int).toNat (0 : Int)))
     else
      some false
    else
     some false
   else
    some false
def cE (x2 : Int) (go4 : (Int × List (LB)) → Option (List (LB))) (x5 : PCode) (go11 : (Int × List (LB)) → Option (List (LB))) (x9 : Int) (out10 : List (LB)) : Option (List (LB)) :=
 if x9 < (x5.instrs.length : Int) then
  bnd (nth x5.instrs x9) fun x12 =>
  bnd (C5 x12) fun x13 =>
  chk ((out10.length + ([x13] : List (LB)).length) * 16 ≤ 140737488355328) <|
  chk (I64 (x9 + 1)) <|
  go11 ((x9 + 1), (out10 ++ ([x13] : List (LB))))
 else
  chk (I64 (x2 + 1)) <|
  go4 ((x2 + 1), out10)
def dK (x2 : Int) (go4 : (Int × List (LB)) → Option (List (LB))) (x5 : PCode) (go : (Int × List (LB)) → Option (List (LB))) (v : Int × List (LB)) : Option (List (LB)) :=
 match v with
 | (x9, out10) => cE x2 go4 x5 go x9 out10
def cD (m : PImage) (go4 : (Int × List (LB)) → Option (List (LB))) (x2 : Int) (out3 : List (LB)) : Option (List (LB)) :=
 if x2 < (m.codes.length : Int) then
  bnd (nth m.codes x2) fun x5 =>
  bnd (w8 x5.params) fun x6 =>
  chk (([99, 111, 100, 101, 32] : LB).length + x6.length ≤ 9223372036854775807) <|
  chk ((([99, 111, 100, 101, 32] : LB) ++ x6).length + ([32] : LB).length ≤ 9223372036854775807) <|
  bnd (w8 x5.slots) fun x7 =>
  chk (((([99, 111, 100, 101, 32] : LB) ++ x6) ++ ([32] : LB)).length + x7.length ≤ 9223372036854775807) <|
  chk ((((([99, 111, 100, 101, 32] : LB) ++ x6) ++ ([32] : LB)) ++ x7).length + ([32] : LB).length ≤ 9223372036854775807) <|
  bnd (w8 x5.captures) fun x8 =>
  chk (((((([99, 111, 100, 101, 32] : LB) ++ x6) ++ ([32] : LB)) ++ x7) ++ ([32] : LB)).length + x8.length ≤ 9223372036854775807) <|
  chk ((out3.length + ([(((((([99, 111, 100, 101, 32] : LB) ++ x6) ++ ([32] : LB)) ++ x7) ++ ([32] : LB)) ++ x8)] : List (LB)).length) * 16 ≤ 140737488355328) <|
  itr (dK x2 go4 x5) LF (0, (out3 ++ ([(((((([99, 111, 100, 101, 32] : LB) ++ x6) ++ ([32] : LB)) ++ x7) ++ ([32] : LB)) ++ x8)] : List (LB))))
 else
  some out3
def dJ (m : PImage) (go : (Int × List (LB)) → Option (List (LB))) (v : Int × List (LB)) : Option (List (LB)) :=
 match v with
 | (x2, out3) => cD m go x2 out3
def K0 (m : PImage) : Option (List (LB)) :=
 itr (dJ m) LF (0, [])
def U9 (m : PImage) : Option (List (LB)) :=
 if (m.codes.length : Int) = 0 then
  some []
 else
  chk (I64 ((m.codes.length : Int) - 1)) <|
  bnd (nth m.codes ((m.codes.length : Int) - 1)) fun x2 =>
  bnd (gL m x2.captures) fun x3 =>
  if x3 = true then
   bnd (K0 m) fun x4 =>
   some x4
  else
   some []
def I5 (x3 : List (LB)) (go7 : (Int × LI) → Option (LI × Bool)) (x5 : Int) (out6 : LI) : Option (LI × Bool) :=
 if x5 < ((x3.drop (1 : Int).toNat).length : Int) then
  bnd (nth (x3.drop (1 : Int).toNat) x5) fun x8 =>
  bnd (P7 x8) fun x9 =>
  if x9.2 = true then
   if x9.1 < 0 then
    some ([], false)
   else
    chk ((out6.length + ([x9.1] : LI).length) * 8 ≤ 140737488355328) <|
    chk (I64 (x5 + 1)) <|
    go7 ((x5 + 1), (out6 ++ ([x9.1] : LI)))
  else
   some ([], false)
 else
  some (out6, true)
def fN (x3 : List (LB)) (go : (Int × LI) → Option (LI × Bool)) (v : Int × LI) : Option (LI × Bool) :=
 match v with
 | (x5, out6) => I5 x3 go x5 out6
def I4 (line : LB) (word : LB) : Option (LI × Bool) :=
 bnd (ah1 line ([32] : LB)) fun x3 =>
 bnd (nth x3 0) fun x4 =>
 if x4 = word then
  chk (0 ≤ (1 : Int) ∧ (1 : Int) ≤ x3.length) <|
  itr (fN x3) LF (0, [])
 else
  some ([], false)
def dR (a : List (LB)) (b : List (LB)) (go4 : Int → Option Bool) (x3 : Int) : Option Bool :=
 if x3 < (a.length : Int) then
  bnd (nth a x3) fun x5 =>
  bnd (nth b x3) fun x6 =>
  if x5 = x6 then
   chk (I64 (x3 + 1)) <|
   go4 (x3 + 1)
  else
   some false
 else
  some true
def nQ (a : List (LB)) (b : List (LB)) (go : Int → Option Bool) (v : Int) : Option Bool :=
 match v with
 | x3 => dR a b go x3
def X6 (a : List (LB)) (b : List (LB)) : Option Bool :=
 if (a.length : Int) = (b.length : Int) then
  itr (nQ a b) LF 0
 else
  some false
def N9 (x2 : Int) (go4 : (Int × List PCode) → Option (PImage × Bool)) (x5 : List PCode) : Option (PImage × Bool) :=
 chk (I64 (x2 + 1)) <|
 go4 ((x2 + 1), x5)
def O0 (x2 : Int) (x3 : List PCode) (go4 : (Int × List PCode) → Option (PImage × Bool)) (x5 : LB) (x6 : LI × Bool) (x7 : Bool) : Option (PImage × Bool) :=
 if x7 = true then
  bnd (nth x6.1 0) fun x8 =>
  bnd (nth x6.1 1) fun x9 =>
  bnd (nth x6.1 2) fun x10 =>
  chk ((x3.length + ([(PCode.mk x8 x9 x10 [])] : List PCode).length) * 48 ≤ 140737488355328) <|
  N9 x2 go4 (x3 ++ ([(PCode.mk x8 x9 x10 [])] : List PCode))
 else
  bnd (bK x5) fun x8 =>
  if x8.2 = true then
   if (x3.length : Int) = 0 then
    some ((PImage.mk [] 0), false)
   else
    chk (I64 ((x3.length : Int) - 1)) <|
    bnd (nth x3 ((x3.length : Int) - 1)) fun x9 =>
    chk ((x9.instrs.length + ([x8.1] : List PInstr).length) * 72 ≤ 140737488355328) <|
    N9 x2 go4 (x3.set ((x3.length : Int) - 1).toNat (PCode.mk x9.params x9.slots x9.captures (x9.instrs ++ ([x8.1] : List PInstr))))
  else
   some ((PImage.mk [] 0), false)
def E9 (lines : List (LB)) (go4 : (Int × List PCode) → Option (PImage × Bool)) (x2 : Int) (x3 : List PCode) : Option (PImage × Bool) :=
 if x2 < (lines.length : Int) then
  bnd (nth lines x2) fun x5 =>
  bnd (I4 x5 ([99, 111, 100, 101] : LB)) fun x6 =>
  if x6.2 = true then
   O0 x2 x3 go4 x5 x6 (decide ((x6.1.length : Int) = 3))
  else
   O0 x2 x3 go4 x5 x6 false
 else
  chk (I64 ((x3.length : Int) - 1)) <|
  if (lines.length : Int) = 0 then
   some ((PImage.mk [] 0), false)
  else
   bnd (U9 (PImage.mk x3 ((x3.length : Int) - 1))) fun x5 =>
   bnd (X6 x5 lines) fun x6 =>
   if x6 = true then
    some ((PImage.mk x3 ((x3.length : Int) - 1)), true)
   else
    some ((PImage.mk [] 0), false)
def u7 (lines : List (LB)) (go : (Int × List PCode) → Option (PImage × Bool)) (v : Int × List PCode) : Option (PImage × Bool) :=
 match v with
 | (x2, x3) => E9 lines go x2 x3
def bJ (lines : List (LB)) : Option (PImage × Bool) :=
 itr (u7 lines) LF (0, [])
end Go.Abs

namespace Go.Abs
set_option linter.unusedVariables false
def aC (s : LB) : Option Bool :=
 bnd (aQ s) fun x2 =>
 if x2 = true then
  some (decide ((s.length : Int) ≤ 8))
 else
  some false
def u9 (x2 : Int) (go4 : (Int × (MI)) → Option Bool) (x5 : LI) (go8 : (Int × (MI)) → Option Bool) (x6 : Int) (seen7 : MI) : Option Bool :=
 if x6 < (x5.length : Int) then
  bnd (nth x5 x6) fun x9 =>
  if x9 < 0 then
   some false
  else
   if x9 > 99999 then
    some false
   else
    if (mget seen7 x9) = 1 then
     some false
    else
     chk (I64 (x6 + 1)) <|
     go8 ((x6 + 1), (mput seen7 x9 1))
 else
  chk (I64 (x2 + 1)) <|
  go4 ((x2 + 1), seen7)
def G6 (x2 : Int) (go4 : (Int × (MI)) → Option Bool) (x5 : LI) (go : (Int × (MI)) → Option Bool) (v : Int × (MI)) : Option Bool :=
 match v with
 | (x6, seen7) => u9 x2 go4 x5 go x6 seen7
def q9 (lists : List (LI)) (go4 : (Int × (MI)) → Option Bool) (x2 : Int) (seen3 : MI) : Option Bool :=
 if x2 < (lists.length : Int) then
  bnd (nth lists x2) fun x5 =>
  itr (G6 x2 go4 x5) LF (0, seen3)
 else
  some true
def w4 (lists : List (LI)) (go : (Int × (MI)) → Option Bool) (v : Int × (MI)) : Option Bool :=
 match v with
 | (x2, seen3) => q9 lists go x2 seen3
def G2 (lists : List (LI)) : Option Bool :=
 itr (w4 lists) LF (0, ([] : MI))
def gM (o : PObj) : Option Bool :=
 bnd (aC o.name) fun x2 =>
 if x2 = true then
  bnd (G2 ([o.defines, o.uses] : List (LI))) fun x3 =>
  if x3 = true then
   chk (I64 ((o.defines.length : Int) + (o.uses.length : Int))) <|
   bnd (gL o.image ((o.defines.length : Int) + (o.uses.length : Int))) fun x4 =>
   some x4
  else
   some false
 else
  some false
def A8 (list : LI) (go5 : (LB × Int) → Option (LB)) (word3 : LB) (x4 : Int) : Option (LB) :=
 if x4 < (list.length : Int) then
  bnd (nth list x4) fun x6 =>
  bnd (w8 x6) fun x7 =>
  chk (([32] : LB).length + x7.length ≤ 9223372036854775807) <|
  chk (word3.length + (([32] : LB) ++ x7).length ≤ 9223372036854775807) <|
  chk (I64 (x4 + 1)) <|
  go5 ((word3 ++ (([32] : LB) ++ x7)), (x4 + 1))
 else
  some word3
def X7 (list : LI) (go : (LB × Int) → Option (LB)) (v : LB × Int) : Option (LB) :=
 match v with
 | (word3, x4) => A8 list go word3 x4
def J7 (word : LB) (list : LI) : Option (LB) :=
 itr (X7 list) LF (word, 0)
def V8 (o : PObj) : Option (List (LB)) :=
 bnd (gM o) fun x2 =>
 if x2 = true then
  chk (([111, 98, 106, 101, 99, 116, 32] : LB).length + o.name.length ≤ 9223372036854775807) <|
  bnd (J7 ([100, 101, 102, 105, 110, 101, 115] : LB) o.defines) fun x3 =>
  bnd (J7 ([117, 115, 101, 115] : LB) o.uses) fun x4 =>
  bnd (K0 o.image) fun x5 =>
  chk ((([(([111, 98, 106, 101, 99, 116, 32] : LB) ++ o.name), x3, x4] : List (LB)).length + x5.length) * 16 ≤ 140737488355328) <|
  some (([(([111, 98, 106, 101, 99, 116, 32] : LB) ++ o.name), x3, x4] : List (LB)) ++ x5)
 else
  some []
def L5 (s : LB) (x_1 : LB) : Option Bool :=
 if (s.length : Int) ≥ (x_1.length : Int) then
  chk (0 ≤ (x_1.length : Int) ∧ (x_1.length : Int) ≤ s.length) <|
  some (decide ((s.take (x_1.length : Int).toNat) = x_1))
 else
  some false
def L4 (s : LB) (x_1 : LB) : Option (LB × Bool) :=
 bnd (L5 s x_1) fun x3 =>
 if x3 = true then
  chk (0 ≤ (x_1.length : Int) ∧ (x_1.length : Int) ≤ s.length) <|
  some ((s.drop (x_1.length : Int).toNat), true)
 else
  some (s, false)
def O7 (s : LB) (x_1 : LB) : Option (LB × Bool) :=
 bnd (L4 s x_1) fun x3 =>
 some (x3.1, x3.2)
def V0 (lines : List (LB)) : Option (PObj × Bool) :=
 if (lines.length : Int) < 3 then
  some ((PObj.mk ([] : LB) [] [] (PImage.mk [] 0)), false)
 else
  bnd (nth lines 0) fun x2 =>
  bnd (O7 x2 ([111, 98, 106, 101, 99, 116, 32] : LB)) fun x3 =>
  bnd (nth lines 1) fun x4 =>
  bnd (I4 x4 ([100, 101, 102, 105, 110, 101, 115] : LB)) fun x5 =>
  bnd (nth lines 2) fun x6 =>
  bnd (I4 x6 ([117, 115, 101, 115] : LB)) fun x7 =>
  chk (0 ≤ (3 : Int) ∧ (3 : Int) ≤ lines.length) <|
  bnd (bJ (lines.drop (3 : Int).toNat)) fun x8 =>
  if x3.2 = true then
   if x5.2 = true then
    if x7.2 = true then
     if x8.2 = true then
      bnd (V8 (PObj.mk x3.1 x5.1 x7.1 x8.1)) fun x9 =>
      bnd (X6 x9 lines) fun x10 =>
      if x10 = true then
       some ((PObj.mk x3.1 x5.1 x7.1 x8.1), true)
      else
       some ((PObj.mk ([] : LB) [] [] (PImage.mk [] 0)), false)
     else
      some ((PObj.mk ([] : LB) [] [] (PImage.mk [] 0)), false)
    else
     some ((PObj.mk ([] : LB) [] [] (PImage.mk [] 0)), false)
   else
    some ((PObj.mk ([] : LB) [] [] (PImage.mk [] 0)), false)
  else
   some ((PObj.mk ([] : LB) [] [] (PImage.mk [] 0)), false)
end Go.Abs

namespace Go.Abs
set_option linter.unusedVariables false
def D6 (out2 : LB) (x3 : Int) (go4 : (LB × Int) → Option (LB)) (d5 : Int) : Option (LB) :=
 chk (I64 (48 + d5)) <|
 chk (0 ≤ (48 + d5) ∧ (48 + d5) ≤ 255) <|
 chk (([(UInt8.ofNat (48 + d5).toNat)] : LB).length + out2.length ≤ 9223372036854775807) <|
 chk (I64 x3 ∧ (0 : Int) < 10) <|
 go4 ((([(UInt8.ofNat (48 + d5).toNat)] : LB) ++ out2), (Int.tdiv x3 10))
def K4 (x_1 : Int) (go4 : (LB × Int) → Option (LB)) (out2 : LB) (x3 : Int) : Option (LB) :=
 if x3 = 0 then
  if x_1 < 0 then
   chk (([45] : LB).length + out2.length ≤ 9223372036854775807) <|
   some (([45] : LB) ++ out2)
  else
   some out2
 else
  chk (I64 x3 ∧ (0 : Int) < 10) <|
  if (Int.tmod x3 10) < 0 then
   chk (I64 (-(Int.tmod x3 10))) <|
   D6 out2 x3 go4 (-(Int.tmod x3 10))
  else
   D6 out2 x3 go4 (Int.tmod x3 10)
def aV (x_1 : Int) (go : (LB × Int) → Option (LB)) (v : LB × Int) : Option (LB) :=
 match v with
 | (out2, x3) => K4 x_1 go out2 x3
def v8 (x_1 : Int) : Option (LB) :=
 if x_1 = 0 then
  some ([48] : LB)
 else
  itr (aV x_1) LF (([] : LB), x_1)
def Y0 (x4 : Int) (go5 : (LB × Int) → Option (LB)) (x6 : LB) (out7 : LB) : Option (LB) :=
 chk (out7.length + x6.length ≤ 9223372036854775807) <|
 chk (I64 (x4 + 1)) <|
 go5 ((out7 ++ x6), (x4 + 1))
def bV (list : List (LB)) (x_1 : LB) (go5 : (LB × Int) → Option (LB)) (out3 : LB) (x4 : Int) : Option (LB) :=
 if x4 < (list.length : Int) then
  bnd (nth list x4) fun x6 =>
  if x4 > 0 then
   chk (out3.length + x_1.length ≤ 9223372036854775807) <|
   Y0 x4 go5 x6 (out3 ++ x_1)
  else
   Y0 x4 go5 x6 out3
 else
  some out3
def oQ (list : List (LB)) (x_1 : LB) (go : (LB × Int) → Option (LB)) (v : LB × Int) : Option (LB) :=
 match v with
 | (out3, x4) => bV list x_1 go out3 x4
def qV (list : List (LB)) (x_1 : LB) : Option (LB) :=
 itr (oQ list x_1) LF (([] : LB), 0)
def W3 (y5 : PD → Option (LB)) (d : PD) (go5 : (Int × List (LB)) → Option (LB)) (x3 : Int) (parts4 : List (LB)) : Option (LB) :=
 if x3 < (d.items.length : Int) then
  bnd (nth d.items x3) fun x6 =>
  bnd (y5 x6) fun x7 =>
  chk ((parts4.length + ([x7] : List (LB)).length) * 16 ≤ 140737488355328) <|
  chk (I64 (x3 + 1)) <|
  go5 ((x3 + 1), (parts4 ++ ([x7] : List (LB))))
 else
  bnd (qV parts4 ([32] : LB)) fun x6 =>
  chk (([40] : LB).length + x6.length ≤ 9223372036854775807) <|
  chk ((([40] : LB) ++ x6).length + ([41] : LB).length ≤ 9223372036854775807) <|
  some ((([40] : LB) ++ x6) ++ ([41] : LB))
def jN (y5 : PD → Option (LB)) (d : PD) (go : (Int × List (LB)) → Option (LB)) (v : Int × List (LB)) : Option (LB) :=
 match v with
 | (x3, parts4) => W3 y5 d go x3 parts4
def bT (y5 : PD → Option (LB)) (d : PD) : Option (LB) :=
 if d.kind = 1 then
  some d.text
 else
  if d.kind = 2 then
   bnd (v8 d.number) fun x3 =>
   some x3
  else
   if d.kind = 3 then
    bnd (nth ([([35, 102] : LB), ([35, 116] : LB)] : List (LB)) d.number) fun x3 =>
    some x3
   else
    if d.kind = 4 then
     chk (([34] : LB).length + d.text.length ≤ 9223372036854775807) <|
     chk ((([34] : LB) ++ d.text).length + ([34] : LB).length ≤ 9223372036854775807) <|
     some ((([34] : LB) ++ d.text) ++ ([34] : LB))
    else
     itr (jN y5 d) LF (0, ([] : List (LB)))
def y5 : Nat → PD → Option (LB)
 | 0, _ => none
 | n + 1, d => bT (y5 n) d
def Z0 (x_1 : Int) (a : Int) (b : Int) : Option Bool :=
 if x_1 ≥ a then
  some (decide (x_1 ≤ b))
 else
  some false
def fG (op : Int) : Option (LB) :=
 bnd (Z0 op 1 20) fun x2 =>
 if x2 = true then
  chk (I64 (op - 1)) <|
  bnd (nth ([([99, 111, 110, 115, 116, 97, 110, 116] : LB), ([112, 114, 105, 109, 105, 116, 105, 118, 101] : LB), ([108, 111, 99, 97, 108] : LB), ([99, 97, 112, 116, 117, 114, 101, 100] : LB), ([114, 101, 97, 100, 45, 108, 111, 99, 97, 108] : LB), ([114, 101, 97, 100, 45, 98, 111, 120] : LB), ([119, 114, 105, 116, 101, 45, 108, 111, 99, 97, 108] : LB), ([119, 114, 105, 116, 101, 45, 98, 111, 120] : LB), ([110, 101, 119, 45, 98, 111, 120] : LB), ([98, 111, 120, 45, 112, 97, 114, 97, 109] : LB), ([99, 108, 111, 115, 117, 114, 101] : LB), ([99, 97, 108, 108] : LB), ([116, 97, 105, 108, 45, 99, 97, 108, 108] : LB), ([114, 101, 116, 117, 114, 110] : LB), ([106, 117, 109, 112] : LB), ([106, 117, 109, 112, 45, 105, 102, 45, 102, 97, 108, 115, 101] : LB), ([112, 111, 112] : LB), ([114, 101, 115, 101, 116] : LB), ([115, 104, 105, 102, 116] : LB), ([101, 110, 116, 101, 114] : LB)] : List (LB)) (op - 1)) fun x3 =>
  some x3
 else
  some ([] : LB)
def cY (op : Int) : Option Bool :=
 if op = 14 then
  some true
 else
  some (decide (op = 17))
def aW (D8 : PD → Int → Option (Bool × Int)) (d : PD) (i4 : Int) (left5 : Int) (go6 : (Int × Int) → Option (Bool × Int)) (x7 : Bool) : Option (Bool × Int) :=
 if x7 = true then
  bnd (nth d.items i4) fun x8 =>
  bnd (D8 x8 left5) fun x9 =>
  chk (I64 (i4 + 1)) <|
  go6 ((i4 + 1), x9.2)
 else
  some ((decide (left5 ≥ 0)), left5)
def X9 (D8 : PD → Int → Option (Bool × Int)) (d : PD) (go6 : (Int × Int) → Option (Bool × Int)) (i4 : Int) (left5 : Int) : Option (Bool × Int) :=
 if i4 < (d.items.length : Int) then
  aW D8 d i4 left5 go6 (decide (left5 ≥ 0))
 else
  aW D8 d i4 left5 go6 false
def sM (D8 : PD → Int → Option (Bool × Int)) (d : PD) (go : (Int × Int) → Option (Bool × Int)) (v : Int × Int) : Option (Bool × Int) :=
 match v with
 | (i4, left5) => X9 D8 d go i4 left5
def lQ (D8 : PD → Int → Option (Bool × Int)) (d : PD) (left : Int) : Option (Bool × Int) :=
 chk (I64 (left - 1)) <|
 itr (sM D8 d) LF (0, (left - 1))
def D8 : Nat → PD → Int → Option (Bool × Int)
 | 0, _, _ => none
 | n + 1, d, left => lQ (D8 n) d left
def Q1 (A6 : PD → Option Int) (d : PD) (go5 : (Int × Int) → Option Int) (x3 : Int) (x4 : Int) : Option Int :=
 if x4 < (d.items.length : Int) then
  bnd (nth d.items x4) fun x6 =>
  bnd (A6 x6) fun x7 =>
  chk (I64 (x4 + 1)) <|
  go5 ((max x3 x7), (x4 + 1))
 else
  chk (I64 (x3 + 1)) <|
  some (x3 + 1)
def lF (A6 : PD → Option Int) (d : PD) (go : (Int × Int) → Option Int) (v : Int × Int) : Option Int :=
 match v with
 | (x3, x4) => Q1 A6 d go x3 x4
def eB (A6 : PD → Option Int) (d : PD) : Option Int :=
 itr (lF A6 d) LF (0, 0)
def A6 : Nat → PD → Option Int
 | 0, _ => none
 | n + 1, d => eB (A6 n) d
def aK (b : Int) : Option Bool :=
 if b ≥ 48 then
  some (decide (b ≤ 57))
 else
  some false
def Z1 (b : Int) (go4 : Int → Option Bool) (i3 : Int) : Option Bool :=
 if i3 < (([33, 63, 42, 60, 62, 61, 47, 43, 45, 46, 95] : LB).length : Int) then
  bnd (nth ([33, 63, 42, 60, 62, 61, 47, 43, 45, 46, 95] : LB) i3) fun x5 =>
  if (x5.toNat : Int) = b then
   some true
  else
   chk (I64 (i3 + 1)) <|
   go4 (i3 + 1)
 else
  some false
def oR (b : Int) (go : Int → Option Bool) (v : Int) : Option Bool :=
 match v with
 | i3 => Z1 b go i3
def U0 (b : Int) (x2 : Bool) : Option Bool :=
 if x2 = true then
  some true
 else
  itr (oR b) LF 0
def qW (b : Int) : Option Bool :=
 if b ≥ 97 then
  if b ≤ 122 then
   U0 b true
  else
   bnd (aK b) fun x2 =>
   U0 b x2
 else
  bnd (aK b) fun x2 =>
  U0 b x2
def M4 (s : LB) (go4 : Int → Option Bool) (i3 : Int) : Option Bool :=
 if i3 < (s.length : Int) then
  bnd (nth s i3) fun x5 =>
  bnd (qW (x5.toNat : Int)) fun x6 =>
  if x6 = true then
   chk (I64 (i3 + 1)) <|
   go4 (i3 + 1)
  else
   some false
 else
  some true
def jI (s : LB) (go : Int → Option Bool) (v : Int) : Option Bool :=
 match v with
 | i3 => M4 s go i3
def E6 (s : LB) (x2 : Bool) : Option Bool :=
 if x2 = true then
  some false
 else
  itr (jI s) LF 0
def S6 (s : LB) : Option Bool :=
 bnd (Z0 (s.length : Int) 1 16) fun x2 =>
 if x2 = true then
  bnd (nth s 0) fun x3 =>
  bnd (aK (x3.toNat : Int)) fun x4 =>
  if x4 = true then
   E6 s true
  else
   bnd (nth s 0) fun x5 =>
   if (x5.toNat : Int) = 45 then
    if (s.length : Int) > 1 then
     bnd (nth s 1) fun x6 =>
     bnd (aK (x6.toNat : Int)) fun x7 =>
     E6 s x7
    else
     E6 s false
   else
    E6 s false
 else
  E6 s true
def M7 (s : LB) (go3 : Int → Option Bool) (i2 : Int) : Option Bool :=
 if i2 < (s.length : Int) then
  bnd (nth s i2) fun x4 =>
  if (x4.toNat : Int) < 32 then
   some false
  else
   bnd (nth s i2) fun x5 =>
   if (x5.toNat : Int) > 126 then
    some false
   else
    bnd (nth s i2) fun x6 =>
    if (x6.toNat : Int) = 34 then
     some false
    else
     chk (I64 (i2 + 1)) <|
     go3 (i2 + 1)
 else
  some (decide ((s.length : Int) ≤ 20))
def qY (s : LB) (go : Int → Option Bool) (v : Int) : Option Bool :=
 match v with
 | i2 => M7 s go i2
def V6 (s : LB) : Option Bool :=
 itr (qY s) LF 0
def qX (kind : Int) (number : Int) (text : LB) (items : Int) : Option Bool :=
 if kind = 0 then
  if number = 0 then
   some (decide (text = ([] : LB)))
  else
   some false
 else
  if kind = 1 then
   if number = 0 then
    bnd (S6 text) fun x5 =>
    if x5 = true then
     some (decide (items = 0))
    else
     some false
   else
    some false
  else
   if kind = 2 then
    bnd (Z0 number (-999999999) 999999999) fun x5 =>
    if x5 = true then
     if text = ([] : LB) then
      some (decide (items = 0))
     else
      some false
    else
     some false
   else
    if kind = 3 then
     bnd (Z0 number 0 1) fun x5 =>
     if x5 = true then
      if text = ([] : LB) then
       some (decide (items = 0))
      else
       some false
     else
      some false
    else
     if kind = 4 then
      if number = 0 then
       bnd (V6 text) fun x5 =>
       if x5 = true then
        some (decide (items = 0))
       else
        some false
      else
       some false
     else
      some false
def R2 (A7 : PD → Option Bool) (d : PD) (go4 : Int → Option Bool) (x3 : Int) : Option Bool :=
 if x3 < (d.items.length : Int) then
  bnd (nth d.items x3) fun x5 =>
  bnd (A7 x5) fun x6 =>
  if x6 = true then
   chk (I64 (x3 + 1)) <|
   go4 (x3 + 1)
  else
   some false
 else
  bnd (qX d.kind d.number d.text (d.items.length : Int)) fun x5 =>
  some x5
def lS (A7 : PD → Option Bool) (d : PD) (go : Int → Option Bool) (v : Int) : Option Bool :=
 match v with
 | x3 => R2 A7 d go x3
def eJ (A7 : PD → Option Bool) (d : PD) : Option Bool :=
 itr (lS A7 d) LF 0
def A7 : Nat → PD → Option Bool
 | 0, _ => none
 | n + 1, d => eJ (A7 n) d
def gY (d : PD) : Option Bool :=
 bnd (D8 RF d 600) fun x2 =>
 if x2.1 = true then
  bnd (A6 RF d) fun x3 =>
  if x3 ≤ 20 then
   bnd (A7 RF d) fun x4 =>
   some x4
  else
   some false
 else
  some false
def eC (u4 : PD → PD → Option Bool) (a : PD) (b : PD) (go5 : Int → Option Bool) (x4 : Int) : Option Bool :=
 if x4 < (a.items.length : Int) then
  bnd (nth a.items x4) fun x6 =>
  bnd (nth b.items x4) fun x7 =>
  bnd (u4 x6 x7) fun x8 =>
  if x8 = true then
   chk (I64 (x4 + 1)) <|
   go5 (x4 + 1)
  else
   some false
 else
  some true
def fS (u4 : PD → PD → Option Bool) (a : PD) (b : PD) (go : Int → Option Bool) (v : Int) : Option Bool :=
 match v with
 | x4 => eC u4 a b go x4
def aE (u4 : PD → PD → Option Bool) (a : PD) (b : PD) : Option Bool :=
 if a.kind = b.kind then
  if a.number = b.number then
   if a.text = b.text then
    if (a.items.length : Int) = (b.items.length : Int) then
     itr (fS u4 a b) LF 0
    else
     some false
   else
    some false
  else
   some false
 else
  some false
def u4 : Nat → PD → PD → Option Bool
 | 0, _, _ => none
 | n + 1, a, b => aE (u4 n) a b
def cX (x_1 : PInstr) : Option Bool :=
 bnd (Z0 x_1.op 1 20) fun x2 =>
 if x2 = true then
  if x_1.op = 1 then
   if x_1.a = 0 then
    bnd (gY x_1.d) fun x3 =>
    some x3
   else
    some false
  else
   bnd (u4 RF x_1.d (PD.mk 0 0 ([] : LB) [])) fun x3 =>
   if x3 = true then
    bnd (Z0 x_1.a 0 4000) fun x4 =>
    if x4 = true then
     if x_1.a = 0 then
      some true
     else
      bnd (cY x_1.op) fun x5 =>
      some (!x5)
    else
     some false
   else
    some false
 else
  some false
def E5 (x_1 : PInstr) : Option (LB) :=
 bnd (cX x_1) fun x2 =>
 if x2 = true then
  if x_1.op = 1 then
   bnd (fG x_1.op) fun x3 =>
   chk (x3.length + ([32] : LB).length ≤ 9223372036854775807) <|
   bnd (y5 RF x_1.d) fun x4 =>
   chk ((x3 ++ ([32] : LB)).length + x4.length ≤ 9223372036854775807) <|
   some ((x3 ++ ([32] : LB)) ++ x4)
  else
   bnd (cY x_1.op) fun x3 =>
   if x3 = true then
    bnd (fG x_1.op) fun x4 =>
    some x4
   else
    bnd (fG x_1.op) fun x4 =>
    chk (x4.length + ([32] : LB).length ≤ 9223372036854775807) <|
    bnd (v8 x_1.a) fun x5 =>
    chk ((x4 ++ ([32] : LB)).length + x5.length ≤ 9223372036854775807) <|
    some ((x4 ++ ([32] : LB)) ++ x5)
 else
  some ([] : LB)
def E8 (s : LB) (go3 : Int → Option (LB × LB)) (i2 : Int) : Option (LB × LB) :=
 if i2 < (s.length : Int) then
  bnd (nth s i2) fun x4 =>
  if (x4.toNat : Int) = 32 then
   chk (0 ≤ i2 ∧ i2 ≤ s.length) <|
   chk (I64 (i2 + 1)) <|
   chk (0 ≤ (i2 + 1) ∧ (i2 + 1) ≤ s.length) <|
   some ((s.take i2.toNat), (s.drop (i2 + 1).toNat))
  else
   chk (I64 (i2 + 1)) <|
   go3 (i2 + 1)
 else
  some (s, ([] : LB))
def jM (s : LB) (go : Int → Option (LB × LB)) (v : Int) : Option (LB × LB) :=
 match v with
 | i2 => E8 s go i2
def S8 (s : LB) : Option (LB × LB) :=
 itr (jM s) LF 0
def O6 (s : LB) (x3 : Int) (go6 : (Int × Int) → Option (Int × Bool)) (x4 : Int) (i5 : Int) : Option (Int × Bool) :=
 if i5 < (s.length : Int) then
  bnd (nth s i5) fun x7 =>
  bnd (aK (x7.toNat : Int)) fun x8 =>
  if x8 = true then
   chk (I64 (10 * x4)) <|
   bnd (nth s i5) fun x9 =>
   chk (0 ≤ ((x9.toNat : Int) - 48) ∧ ((x9.toNat : Int) - 48) ≤ 255) <|
   chk (I64 ((x9.toNat : Int) - 48)) <|
   chk (I64 ((10 * x4) + ((x9.toNat : Int) - 48))) <|
   chk (I64 (i5 + 1)) <|
   go6 (((10 * x4) + ((x9.toNat : Int) - 48)), (i5 + 1))
  else
   some (0, false)
 else
  if x3 = 1 then
   chk (I64 (-x4)) <|
   bnd (v8 (-x4)) fun x7 =>
   if x7 = s then
    some ((-x4), true)
   else
    some (0, false)
  else
   bnd (v8 x4) fun x7 =>
   if x7 = s then
    some (x4, true)
   else
    some (0, false)
def X2 (s : LB) (x3 : Int) (go : (Int × Int) → Option (Int × Bool)) (v : Int × Int) : Option (Int × Bool) :=
 match v with
 | (x4, i5) => O6 s x3 go x4 i5
def D0 (s : LB) (x3 : Int) : Option (Int × Bool) :=
 if x3 = (s.length : Int) then
  some (0, false)
 else
  chk (I64 ((s.length : Int) - x3)) <|
  if ((s.length : Int) - x3) > 9 then
   some (0, false)
  else
   itr (X2 s x3) LF (0, x3)
def F3 (s : LB) (x2 : Bool) : Option (Int × Bool) :=
 if x2 = true then
  D0 s 1
 else
  D0 s 0
def K5 (s : LB) : Option (Int × Bool) :=
 if (s.length : Int) > 0 then
  bnd (nth s 0) fun x2 =>
  F3 s (decide ((x2.toNat : Int) = 45))
 else
  F3 s false
def hZ (b : Int) : Option Bool :=
 if b = 32 then
  some true
 else
  if b = 10 then
   some true
  else
   some (decide (b = 9))
def U2 (go3 : PRdS → Option PRdS) (r6 : PRdS) (go7 : PRdS → Option PRdS) (x8 : Bool) : Option PRdS :=
 if x8 = true then
  chk (I64 (r6.pos + 1)) <|
  go7 (PRdS.mk r6.src (r6.pos + 1) r6.bad)
 else
  go3 r6
def L3 (go3 : PRdS → Option PRdS) (go7 : PRdS → Option PRdS) (r6 : PRdS) : Option PRdS :=
 if r6.pos < (r6.src.length : Int) then
  bnd (nth r6.src r6.pos) fun x8 =>
  U2 go3 r6 go7 (!decide ((x8.toNat : Int) = 10))
 else
  U2 go3 r6 go7 false
def oU (go3 : PRdS → Option PRdS) (go : PRdS → Option PRdS) (v : PRdS) : Option PRdS :=
 match v with
 | r6 => L3 go3 go r6
def J2 (r2 : PRdS) (go3 : PRdS → Option PRdS) (x4 : Bool) : Option PRdS :=
 if x4 = true then
  bnd (nth r2.src r2.pos) fun x5 =>
  if (x5.toNat : Int) = 59 then
   itr (oU go3) LF r2
  else
   chk (I64 (r2.pos + 1)) <|
   go3 (PRdS.mk r2.src (r2.pos + 1) r2.bad)
 else
  some r2
def C4 (go3 : PRdS → Option PRdS) (r2 : PRdS) : Option PRdS :=
 if r2.pos < (r2.src.length : Int) then
  bnd (nth r2.src r2.pos) fun x4 =>
  bnd (hZ (x4.toNat : Int)) fun x5 =>
  if x5 = true then
   J2 r2 go3 true
  else
   bnd (nth r2.src r2.pos) fun x6 =>
   J2 r2 go3 (decide ((x6.toNat : Int) = 59))
 else
  J2 r2 go3 false
def oT (go : PRdS → Option PRdS) (v : PRdS) : Option PRdS :=
 match v with
 | r2 => C4 go r2
def V5 (r : PRdS) : Option PRdS :=
 itr oT LF r
def Q2 (s : LB) : Option PD :=
 bnd (S6 s) fun x2 =>
 if x2 = true then
  some (PD.mk 1 0 s [])
 else
  some (PD.mk 0 0 ([] : LB) [])
def cT (s : LB) : Option PD :=
 bnd (V6 s) fun x2 =>
 if x2 = true then
  some (PD.mk 4 0 s [])
 else
  some (PD.mk 0 0 ([] : LB) [])
def qT (b : Int) : Option Bool :=
 if b = 40 then
  some true
 else
  if b = 41 then
   some true
  else
   if b = 34 then
    some true
   else
    if b = 59 then
     some true
    else
     some (decide (b = 39))
def cS (x_1 : Int) : Option PD :=
 bnd (Z0 x_1 (-999999999) 999999999) fun x2 =>
 if x2 = true then
  some (PD.mk 2 x_1 ([] : LB) [])
 else
  some (PD.mk 0 0 ([] : LB) [])
def S5 (b : Bool) : Option PD :=
 if b = true then
  some (PD.mk 3 1 ([] : LB) [])
 else
  some (PD.mk 3 0 ([] : LB) [])
def R1 (r : PRdS) (r2 : PRdS) (go3 : PRdS → Option (PD × PRdS)) (x4 : Bool) : Option (PD × PRdS) :=
 if x4 = true then
  chk (I64 (r2.pos + 1)) <|
  go3 (PRdS.mk r2.src (r2.pos + 1) r2.bad)
 else
  chk (0 ≤ r.pos ∧ r.pos ≤ r2.pos ∧ r2.pos ≤ r2.src.length) <|
  bnd (K5 ((r2.src.take r2.pos.toNat).drop r.pos.toNat)) fun x5 =>
  if x5.2 = true then
   bnd (cS x5.1) fun x6 =>
   some (x6, r2)
  else
   if ((r2.src.take r2.pos.toNat).drop r.pos.toNat) = ([35, 116] : LB) then
    bnd (S5 (decide (((r2.src.take r2.pos.toNat).drop r.pos.toNat) = ([35, 116] : LB)))) fun x6 =>
    some (x6, r2)
   else
    if ((r2.src.take r2.pos.toNat).drop r.pos.toNat) = ([35, 102] : LB) then
     bnd (S5 (decide (((r2.src.take r2.pos.toNat).drop r.pos.toNat) = ([35, 116] : LB)))) fun x6 =>
     some (x6, r2)
    else
     bnd (S6 ((r2.src.take r2.pos.toNat).drop r.pos.toNat)) fun x6 =>
     if x6 = true then
      bnd (Q2 ((r2.src.take r2.pos.toNat).drop r.pos.toNat)) fun x7 =>
      some (x7, r2)
     else
      some ((PD.mk 0 0 ([] : LB) []), (PRdS.mk r2.src r2.pos true))
def K7 (r : PRdS) (go3 : PRdS → Option (PD × PRdS)) (r2 : PRdS) : Option (PD × PRdS) :=
 if r2.pos < (r2.src.length : Int) then
  bnd (nth r2.src r2.pos) fun x4 =>
  bnd (hZ (x4.toNat : Int)) fun x5 =>
  if x5 = true then
   R1 r r2 go3 false
  else
   bnd (nth r2.src r2.pos) fun x6 =>
   bnd (qT (x6.toNat : Int)) fun x7 =>
   R1 r r2 go3 (!x7)
 else
  R1 r r2 go3 false
def oP (r : PRdS) (go : PRdS → Option (PD × PRdS)) (v : PRdS) : Option (PD × PRdS) :=
 match v with
 | r2 => K7 r go r2
def qS (r : PRdS) : Option (PD × PRdS) :=
 itr (oP r) LF r
def U1 (x3 : PRdS) (r6 : PRdS) (go7 : PRdS → Option (PD × PRdS)) (x8 : Bool) : Option (PD × PRdS) :=
 if x8 = true then
  chk (I64 (r6.pos + 1)) <|
  go7 (PRdS.mk r6.src (r6.pos + 1) r6.bad)
 else
  if r6.pos ≥ (r6.src.length : Int) then
   some ((PD.mk 0 0 ([] : LB) []), (PRdS.mk r6.src r6.pos true))
  else
   chk (0 ≤ (x3.pos + 1) ∧ (x3.pos + 1) ≤ r6.pos ∧ r6.pos ≤ r6.src.length) <|
   bnd (V6 ((r6.src.take r6.pos.toNat).drop (x3.pos + 1).toNat)) fun x9 =>
   if x9 = true then
    chk (I64 (r6.pos + 1)) <|
    chk (I64 ((r6.pos + 1) - 1)) <|
    chk (0 ≤ (x3.pos + 1) ∧ (x3.pos + 1) ≤ ((r6.pos + 1) - 1) ∧ ((r6.pos + 1) - 1) ≤ r6.src.length) <|
    bnd (cT ((r6.src.take ((r6.pos + 1) - 1).toNat).drop (x3.pos + 1).toNat)) fun x10 =>
    some (x10, (PRdS.mk r6.src (r6.pos + 1) r6.bad))
   else
    some ((PD.mk 0 0 ([] : LB) []), (PRdS.mk r6.src r6.pos true))
def K9 (x3 : PRdS) (go7 : PRdS → Option (PD × PRdS)) (r6 : PRdS) : Option (PD × PRdS) :=
 if r6.pos < (r6.src.length : Int) then
  bnd (nth r6.src r6.pos) fun x8 =>
  U1 x3 r6 go7 (!decide ((x8.toNat : Int) = 34))
 else
  U1 x3 r6 go7 false
def jP (x3 : PRdS) (go : PRdS → Option (PD × PRdS)) (v : PRdS) : Option (PD × PRdS) :=
 match v with
 | r6 => K9 x3 go r6
def F4 (z7 : PRdS → Option (PD × PRdS)) (r7 : PRdS) (x8 : List PD) (go9 : (PRdS × List PD) → Option (PD × PRdS)) (x10 : Bool) : Option (PD × PRdS) :=
 if x10 = true then
  bnd (z7 r7) fun x11 =>
  chk ((x8.length + ([x11.1] : List PD).length) * 56 ≤ 140737488355328) <|
  bnd (V5 x11.2) fun x12 =>
  go9 (x12, (x8 ++ ([x11.1] : List PD)))
 else
  if r7.bad = true then
   chk (I64 (r7.pos + 1)) <|
   some ((PD.mk 0 0 ([] : LB) x8), (PRdS.mk r7.src (r7.pos + 1) true))
  else
   chk (I64 (r7.pos + 1)) <|
   some ((PD.mk 0 0 ([] : LB) x8), (PRdS.mk r7.src (r7.pos + 1) (decide (r7.pos ≥ (r7.src.length : Int)))))
def P3 (z7 : PRdS → Option (PD × PRdS)) (go9 : (PRdS × List PD) → Option (PD × PRdS)) (r7 : PRdS) (x8 : List PD) : Option (PD × PRdS) :=
 if r7.bad = true then
  F4 z7 r7 x8 go9 false
 else
  if r7.pos < (r7.src.length : Int) then
   bnd (nth r7.src r7.pos) fun x10 =>
   F4 z7 r7 x8 go9 (!decide ((x10.toNat : Int) = 41))
  else
   F4 z7 r7 x8 go9 false
def M6 (z7 : PRdS → Option (PD × PRdS)) (go : (PRdS × List PD) → Option (PD × PRdS)) (v : PRdS × List PD) : Option (PD × PRdS) :=
 match v with
 | (r7, x8) => P3 z7 go r7 x8
def iA (z7 : PRdS → Option (PD × PRdS)) (r : PRdS) : Option (PD × PRdS) :=
 bnd (V5 r) fun x3 =>
 if x3.bad = true then
  some ((PD.mk 0 0 ([] : LB) []), (PRdS.mk x3.src x3.pos true))
 else
  if x3.pos ≥ (x3.src.length : Int) then
   some ((PD.mk 0 0 ([] : LB) []), (PRdS.mk x3.src x3.pos true))
  else
   bnd (nth x3.src x3.pos) fun x4 =>
   if (x4.toNat : Int) = 41 then
    some ((PD.mk 0 0 ([] : LB) []), (PRdS.mk x3.src x3.pos true))
   else
    bnd (nth x3.src x3.pos) fun x5 =>
    if (x5.toNat : Int) = 39 then
     chk (I64 (x3.pos + 1)) <|
     bnd (Q2 ([113, 117, 111, 116, 101] : LB)) fun x6 =>
     bnd (z7 (PRdS.mk x3.src (x3.pos + 1) x3.bad)) fun x7 =>
     some ((PD.mk 0 0 ([] : LB) ([x6, x7.1] : List PD)), x7.2)
    else
     if (x5.toNat : Int) = 34 then
      chk (I64 (x3.pos + 1)) <|
      itr (jP x3) LF (PRdS.mk x3.src (x3.pos + 1) x3.bad)
     else
      if (x5.toNat : Int) = 40 then
       chk (I64 (x3.pos + 1)) <|
       bnd (V5 (PRdS.mk x3.src (x3.pos + 1) x3.bad)) fun x6 =>
       itr (M6 z7) LF (x6, [])
      else
       bnd (qS x3) fun x6 =>
       some (x6.1, x6.2)
def z7 : Nat → PRdS → Option (PD × PRdS)
 | 0, _ => none
 | n + 1, r => iA (z7 n) r
def R6 (s8 : PD → Option Int) (d : PD) (go5 : (Int × Int) → Option Int) (x3 : Int) (x4 : Int) : Option Int :=
 if x4 < (d.items.length : Int) then
  bnd (nth d.items x4) fun x6 =>
  bnd (s8 x6) fun x7 =>
  chk (I64 (x3 + x7)) <|
  chk (I64 (x4 + 1)) <|
  go5 ((x3 + x7), (x4 + 1))
 else
  some x3
def eA (s8 : PD → Option Int) (d : PD) (go : (Int × Int) → Option Int) (v : Int × Int) : Option Int :=
 match v with
 | (x3, x4) => R6 s8 d go x3 x4
def W2 (s8 : PD → Option Int) (d : PD) : Option Int :=
 itr (eA s8 d) LF (1, 0)
def s8 : Nat → PD → Option Int
 | 0, _ => none
 | n + 1, d => W2 (s8 n) d
def aD (list : List PD) (go4 : (Int × Int) → Option Bool) (x2 : Int) (x3 : Int) : Option Bool :=
 if x3 < (list.length : Int) then
  bnd (nth list x3) fun x5 =>
  bnd (gY x5) fun x6 =>
  if x6 = true then
   bnd (s8 RF x5) fun x7 =>
   chk (I64 (x2 + x7)) <|
   chk (I64 (x3 + 1)) <|
   go4 ((x2 + x7), (x3 + 1))
  else
   some false
 else
  some (decide (x2 ≤ 600))
def lD (list : List PD) (go : (Int × Int) → Option Bool) (v : Int × Int) : Option Bool :=
 match v with
 | (x2, x3) => aD list go x2 x3
def lC (list : List PD) : Option Bool :=
 itr (lD list) LF (0, 0)
def M5 (r3 : PRdS) (out4 : List PD) (go5 : (PRdS × List PD) → Option (List PD × Bool)) (x6 : Bool) : Option (List PD × Bool) :=
 if x6 = true then
  bnd (z7 RF r3) fun x7 =>
  chk ((out4.length + ([x7.1] : List PD).length) * 56 ≤ 140737488355328) <|
  bnd (V5 x7.2) fun x8 =>
  go5 (x8, (out4 ++ ([x7.1] : List PD)))
 else
  if r3.bad = true then
   some ([], false)
  else
   bnd (lC out4) fun x7 =>
   if x7 = true then
    some (out4, true)
   else
    some ([], false)
def I7 (go5 : (PRdS × List PD) → Option (List PD × Bool)) (r3 : PRdS) (out4 : List PD) : Option (List PD × Bool) :=
 if r3.bad = true then
  M5 r3 out4 go5 false
 else
  M5 r3 out4 go5 (decide (r3.pos < (r3.src.length : Int)))
def I1 (go : (PRdS × List PD) → Option (List PD × Bool)) (v : PRdS × List PD) : Option (List PD × Bool) :=
 match v with
 | (r3, out4) => I7 go r3 out4
def eD (source : LB) : Option (List PD × Bool) :=
 if (source.length : Int) > 15000 then
  some ([], false)
 else
  bnd (V5 (PRdS.mk source 0 false)) fun x2 =>
  itr I1 LF (x2, ([] : List PD))
def R7 (s : LB) (x2 : LB × LB) (go4 : Int → Option (PInstr × Bool)) (op3 : Int) : Option (PInstr × Bool) :=
 if op3 ≤ 20 then
  bnd (fG op3) fun x5 =>
  if x5 = x2.1 then
   if op3 = 1 then
    bnd (eD x2.2) fun x6 =>
    if (x6.1.length : Int) = 1 then
     bnd (nth x6.1 0) fun x7 =>
     bnd (E5 (PInstr.mk op3 0 x7)) fun x8 =>
     if x8 = s then
      some ((PInstr.mk op3 0 x7), true)
     else
      some ((PInstr.mk 0 0 (PD.mk 0 0 ([] : LB) [])), false)
    else
     some ((PInstr.mk 0 0 (PD.mk 0 0 ([] : LB) [])), false)
   else
    bnd (K5 x2.2) fun x6 =>
    bnd (E5 (PInstr.mk op3 x6.1 (PD.mk 0 0 ([] : LB) []))) fun x7 =>
    if x7 = s then
     some ((PInstr.mk op3 x6.1 (PD.mk 0 0 ([] : LB) [])), true)
    else
     some ((PInstr.mk 0 0 (PD.mk 0 0 ([] : LB) [])), false)
  else
   chk (I64 (op3 + 1)) <|
   go4 (op3 + 1)
 else
  some ((PInstr.mk 0 0 (PD.mk 0 0 ([] : LB) [])), false)
def aI (s : LB) (x2 : LB × LB) (go : Int → Option (PInstr × Bool)) (v : Int) : Option (PInstr × Bool) :=
 match v with
 | op3 => R7 s x2 go op3
def bP (s : LB) : Option (PInstr × Bool) :=
 bnd (S8 s) fun x2 =>
 itr (aI s x2) LF 1
end Go.Abs

namespace Go.Abs
set_option linter.unusedVariables false
def X4 : Option (List (LB)) :=
 some ([([43] : LB), ([45] : LB), ([42] : LB), ([61] : LB), ([60] : LB), ([99, 111, 110, 115] : LB), ([99, 97, 114] : LB), ([99, 100, 114] : LB), ([110, 117, 108, 108, 63] : LB), ([112, 97, 105, 114, 63] : LB), ([110, 117, 109, 98, 101, 114, 63] : LB), ([101, 113, 63] : LB), ([110, 111, 116] : LB), ([100, 105, 115, 112, 108, 97, 121] : LB)] : List (LB))
def Y5 (m : PImage) (x_1 : Int) (x_2 : PInstr) (x5 : Bool) : Option Bool :=
 if x5 = true then
  if x_2.a < x_1 then
   bnd (nth m.codes x_2.a) fun x6 =>
   some (decide (x6.params = 0))
  else
   some false
 else
  if x_2.op = 19 then
   if x_2.a < x_1 then
    bnd (nth m.codes x_2.a) fun x6 =>
    some (decide (x6.params = 1))
   else
    some false
  else
   if x_2.op = 12 then
    some (decide (x_2.a ≤ 8))
   else
    if x_2.op = 13 then
     some (decide (x_2.a ≤ 8))
    else
     some true
def lK (m : PImage) (x_1 : Int) (x_2 : PInstr) : Option Bool :=
 bnd (nth m.codes x_1) fun x4 =>
 if x_2.op = 2 then
  bnd (X4) fun x5 =>
  some (decide (x_2.a < (x5.length : Int)))
 else
  if x_2.op = 3 then
   some (decide (x_2.a < x4.slots))
  else
   if x_2.op = 5 then
    some (decide (x_2.a < x4.slots))
   else
    if x_2.op = 7 then
     some (decide (x_2.a < x4.slots))
    else
     if x_2.op = 9 then
      chk (I64 (x4.slots - 1)) <|
      bnd (Z0 x_2.a x4.params (x4.slots - 1)) fun x5 =>
      some x5
     else
      if x_2.op = 10 then
       some (decide (x_2.a < x4.params))
      else
       if x_2.op = 4 then
        some (decide (x_2.a < x4.captures))
       else
        if x_2.op = 6 then
         some (decide (x_2.a < x4.captures))
        else
         if x_2.op = 8 then
          some (decide (x_2.a < x4.captures))
         else
          if x_2.op = 11 then
           if x_2.a < x_1 then
            bnd (nth m.codes x_2.a) fun x5 =>
            some (decide (x5.params ≤ 8))
           else
            some false
          else
           if x_2.op = 18 then
            Y5 m x_1 x_2 true
           else
            Y5 m x_1 x_2 (decide (x_2.op = 20))
def Q3 (m : PImage) (x_1 : Int) (x3 : PCode) (go9 : Int → Option Bool) (x8 : Int) : Option Bool :=
 if x8 < (x3.instrs.length : Int) then
  bnd (nth x3.instrs x8) fun x10 =>
  bnd (cX x10) fun x11 =>
  if x11 = true then
   bnd (lK m x_1 x10) fun x12 =>
   if x12 = true then
    chk (I64 (x8 + 1)) <|
    go9 (x8 + 1)
   else
    some false
  else
   some false
 else
  some true
def tF (m : PImage) (x_1 : Int) (x3 : PCode) (go : Int → Option Bool) (v : Int) : Option Bool :=
 match v with
 | x8 => Q3 m x_1 x3 go x8
def lJ (m : PImage) (x_1 : Int) : Option Bool :=
 bnd (nth m.codes x_1) fun x3 =>
 bnd (Z0 x3.params 0 8) fun x4 =>
 if x4 = true then
  bnd (Z0 x3.slots x3.params 500) fun x5 =>
  if x5 = true then
   bnd (Z0 x3.captures 0 500) fun x6 =>
   if x6 = true then
    bnd (Z0 (x3.instrs.length : Int) 1 4000) fun x7 =>
    if x7 = true then
     itr (tF m x_1 x3) LF 0
    else
     some false
   else
    some false
  else
   some false
 else
  some false
def eF (m : PImage) (x_1 : PInstr) : Option (Int × Int) :=
 if x_1.op = 1 then
  some (0, 1)
 else
  if x_1.op = 2 then
   some (0, 1)
  else
   if x_1.op = 3 then
    some (0, 1)
   else
    if x_1.op = 4 then
     some (0, 1)
    else
     if x_1.op = 5 then
      some (0, 1)
     else
      if x_1.op = 6 then
       some (0, 1)
      else
       if x_1.op = 7 then
        some (1, 1)
       else
        if x_1.op = 8 then
         some (1, 1)
        else
         if x_1.op = 11 then
          bnd (nth m.codes x_1.a) fun x3 =>
          some (x3.captures, 1)
         else
          if x_1.op = 18 then
           bnd (nth m.codes x_1.a) fun x3 =>
           some (x3.captures, 1)
          else
           if x_1.op = 19 then
            bnd (nth m.codes x_1.a) fun x3 =>
            some (x3.captures, 1)
           else
            if x_1.op = 20 then
             bnd (nth m.codes x_1.a) fun x3 =>
             some (x3.captures, 1)
            else
             if x_1.op = 12 then
              chk (I64 (x_1.a + 1)) <|
              some ((x_1.a + 1), 1)
             else
              if x_1.op = 13 then
               chk (I64 (x_1.a + 1)) <|
               some ((x_1.a + 1), 0)
              else
               if x_1.op = 14 then
                some (1, 0)
               else
                if x_1.op = 17 then
                 some (1, 0)
                else
                 if x_1.op = 16 then
                  some (1, 0)
                 else
                  some (0, 0)
def E7 (x8 : Int) (go10 : (Int × LI) → Option (LI × Bool)) (depths11 : LI) : Option (LI × Bool) :=
 chk (I64 (x8 + 1)) <|
 go10 ((x8 + 1), depths11)
def I2 (x13 : Int × Int) (x14 : Int) (x17 : Int) (depths18 : LI) (go19 : (Int × LI) → Option (LI × Bool)) (x20 : Int) (x21 : Bool) : Option (LI × Bool) :=
 if x21 = true then
  some ([], false)
 else
  chk (I64 ((x14 - x13.1) + x13.2)) <|
  bnd (nth depths18 x20) fun x22 =>
  chk (I64 (x17 + 1)) <|
  go19 ((x17 + 1), (depths18.set x20.toNat ((x14 - x13.1) + x13.2)))
def J0 (x3 : PCode) (x8 : Int) (go10 : (Int × LI) → Option (LI × Bool)) (x13 : Int × Int) (x14 : Int) (x16 : LI) (go19 : (Int × LI) → Option (LI × Bool)) (x17 : Int) (depths18 : LI) : Option (LI × Bool) :=
 if x17 < (x16.length : Int) then
  bnd (nth x16 x17) fun x20 =>
  if x20 ≤ x8 then
   I2 x13 x14 x17 depths18 go19 x20 true
  else
   if x20 ≥ (x3.instrs.length : Int) then
    I2 x13 x14 x17 depths18 go19 x20 true
   else
    bnd (nth depths18 x20) fun x21 =>
    if x21 ≥ 0 then
     bnd (nth depths18 x20) fun x22 =>
     chk (I64 ((x14 - x13.1) + x13.2)) <|
     I2 x13 x14 x17 depths18 go19 x20 (!decide (x22 = ((x14 - x13.1) + x13.2)))
    else
     I2 x13 x14 x17 depths18 go19 x20 false
 else
  E7 x8 go10 depths18
def bE (x3 : PCode) (x8 : Int) (go10 : (Int × LI) → Option (LI × Bool)) (x13 : Int × Int) (x14 : Int) (x16 : LI) (go : (Int × LI) → Option (LI × Bool)) (v : Int × LI) : Option (LI × Bool) :=
 match v with
 | (x17, depths18) => J0 x3 x8 go10 x13 x14 x16 go x17 depths18
def B2 (x3 : PCode) (x8 : Int) (depths9 : LI) (go10 : (Int × LI) → Option (LI × Bool)) (x13 : Int × Int) (x14 : Int) (x16 : LI) : Option (LI × Bool) :=
 itr (bE x3 x8 go10 x13 x14 x16) LF (0, depths9)
def S7 (x3 : PCode) (x8 : Int) (depths9 : LI) (go10 : (Int × LI) → Option (LI × Bool)) (x11 : PInstr) (x13 : Int × Int) (x14 : Int) (x16 : Bool) : Option (LI × Bool) :=
 if x16 = true then
  B2 x3 x8 depths9 go10 x13 x14 []
 else
  if x11.op = 15 then
   B2 x3 x8 depths9 go10 x13 x14 ([x11.a] : LI)
  else
   if x11.op = 16 then
    chk ((([(x8 + 1)] : LI).length + ([x11.a] : LI).length) * 8 ≤ 140737488355328) <|
    B2 x3 x8 depths9 go10 x13 x14 (([(x8 + 1)] : LI) ++ ([x11.a] : LI))
   else
    B2 x3 x8 depths9 go10 x13 x14 ([(x8 + 1)] : LI)
def w9 (x3 : PCode) (x8 : Int) (depths9 : LI) (go10 : (Int × LI) → Option (LI × Bool)) (x11 : PInstr) (x13 : Int × Int) (x14 : Int) (x15 : Bool) : Option (LI × Bool) :=
 if x15 = true then
  some ([], false)
 else
  chk (I64 (x8 + 1)) <|
  if x11.op = 14 then
   S7 x3 x8 depths9 go10 x11 x13 x14 true
  else
   S7 x3 x8 depths9 go10 x11 x13 x14 (decide (x11.op = 13))
def I9 (m : PImage) (x3 : PCode) (go10 : (Int × LI) → Option (LI × Bool)) (x8 : Int) (depths9 : LI) : Option (LI × Bool) :=
 if x8 < (x3.instrs.length : Int) then
  bnd (nth x3.instrs x8) fun x11 =>
  bnd (nth depths9 x8) fun x12 =>
  if x12 < 0 then
   E7 x8 go10 depths9
  else
   bnd (eF m x11) fun x13 =>
   bnd (nth depths9 x8) fun x14 =>
   chk (I64 (x14 - x13.1)) <|
   if (x14 - x13.1) < 0 then
    w9 x3 x8 depths9 go10 x11 x13 x14 true
   else
    chk (I64 ((x14 - x13.1) + x13.2)) <|
    if ((x14 - x13.1) + x13.2) > 500 then
     w9 x3 x8 depths9 go10 x11 x13 x14 true
    else
     if x11.op = 14 then
      if (x14 - x13.1) = 0 then
       if x11.op = 13 then
        w9 x3 x8 depths9 go10 x11 x13 x14 (!decide ((x14 - x13.1) = 0))
       else
        w9 x3 x8 depths9 go10 x11 x13 x14 false
      else
       w9 x3 x8 depths9 go10 x11 x13 x14 true
     else
      if x11.op = 13 then
       w9 x3 x8 depths9 go10 x11 x13 x14 (!decide ((x14 - x13.1) = 0))
      else
       w9 x3 x8 depths9 go10 x11 x13 x14 false
 else
  some (depths9, true)
def bD (m : PImage) (x3 : PCode) (go : (Int × LI) → Option (LI × Bool)) (v : Int × LI) : Option (LI × Bool) :=
 match v with
 | (x8, depths9) => I9 m x3 go x8 depths9
def I8 (m : PImage) (x3 : PCode) (go6 : (Int × LI) → Option (LI × Bool)) (x4 : Int) (depths5 : LI) : Option (LI × Bool) :=
 if x4 < ((List.replicate (x3.instrs.length : Int).toNat (0 : Int)).length : Int) then
  bnd (nth depths5 x4) fun x7 =>
  chk (I64 (x4 + 1)) <|
  go6 ((x4 + 1), (depths5.set x4.toNat (-1)))
 else
  if (x3.instrs.length : Int) = 0 then
   some ([], false)
  else
   bnd (nth depths5 0) fun x7 =>
   itr (bD m x3) LF (0, (depths5.set (0 : Int).toNat 0))
def fT (m : PImage) (x3 : PCode) (go : (Int × LI) → Option (LI × Bool)) (v : Int × LI) : Option (LI × Bool) :=
 match v with
 | (x4, depths5) => I8 m x3 go x4 depths5
def eE (m : PImage) (x_1 : Int) : Option (LI × Bool) :=
 bnd (nth m.codes x_1) fun x3 =>
 chk (0 ≤ (x3.instrs.length : Int) ∧ (8 : Nat) * (x3.instrs.length : Int) ≤ 281474976710656 ∧ (x3.instrs.length : Int) ≤ 281474976710656) <|
 itr (fT m x3) LF (0, (List.replicate (x3.instrs.length : Int).toNat (0 : Int)))
def eG (op : Int) : Option Bool :=
 if op = 11 then
  some true
 else
  if op = 18 then
   some true
  else
   if op = 19 then
    some true
   else
    some (decide (op = 20))
def Y8 (x6 : Int) (go8 : (Int × LI) → Option Bool) (times9 : LI) : Option Bool :=
 chk (I64 (x6 + 1)) <|
 go8 ((x6 + 1), times9)
def Q8 (x2 : Int) (go4 : (Int × LI) → Option Bool) (x5 : PCode) (go8 : (Int × LI) → Option Bool) (x6 : Int) (times7 : LI) : Option Bool :=
 if x6 < (x5.instrs.length : Int) then
  bnd (nth x5.instrs x6) fun x9 =>
  bnd (eG x9.op) fun x10 =>
  if x10 = true then
   bnd (nth times7 x9.a) fun x11 =>
   chk (I64 (x11 + 1)) <|
   bnd (nth times7 x9.a) fun x12 =>
   Y8 x6 go8 (times7.set x9.a.toNat (x11 + 1))
  else
   Y8 x6 go8 times7
 else
  chk (I64 (x2 + 1)) <|
  go4 ((x2 + 1), times7)
def fI (x2 : Int) (go4 : (Int × LI) → Option Bool) (x5 : PCode) (go : (Int × LI) → Option Bool) (v : Int × LI) : Option Bool :=
 match v with
 | (x6, times7) => Q8 x2 go4 x5 go x6 times7
def Y9 (x5 : Int) (go6 : Int → Option Bool) (x8 : Bool) : Option Bool :=
 if x8 = true then
  some false
 else
  chk (I64 (x5 + 1)) <|
  go6 (x5 + 1)
def Q9 (m : PImage) (times3 : LI) (go6 : Int → Option Bool) (x5 : Int) : Option Bool :=
 if x5 < (times3.length : Int) then
  bnd (nth times3 x5) fun x7 =>
  if x7 = 1 then
   Y9 x5 go6 false
  else
   Y9 x5 go6 (!decide (x5 = m.main))
 else
  some true
def fJ (m : PImage) (times3 : LI) (go : Int → Option Bool) (v : Int) : Option Bool :=
 match v with
 | x5 => Q9 m times3 go x5
def Q7 (m : PImage) (go4 : (Int × LI) → Option Bool) (x2 : Int) (times3 : LI) : Option Bool :=
 if x2 < (m.codes.length : Int) then
  bnd (nth m.codes x2) fun x5 =>
  itr (fI x2 go4 x5) LF (0, times3)
 else
  itr (fJ m times3) LF 0
def lO (m : PImage) (go : (Int × LI) → Option Bool) (v : Int × LI) : Option Bool :=
 match v with
 | (x2, times3) => Q7 m go x2 times3
def lN (m : PImage) : Option Bool :=
 chk (0 ≤ (m.codes.length : Int) ∧ (8 : Nat) * (m.codes.length : Int) ≤ 281474976710656 ∧ (m.codes.length : Int) ≤ 281474976710656) <|
 itr (lO m) LF (0, (List.replicate (m.codes.length : Int).toNat (0 : Int)))
def aF (m : PImage) (go8 : (Int × Int) → Option Bool) (x6 : Int) (x7 : Int) : Option Bool :=
 if x7 < (m.codes.length : Int) then
  bnd (lJ m x7) fun x9 =>
  if x9 = true then
   bnd (eE m x7) fun x10 =>
   if x10.2 = true then
    bnd (nth m.codes x7) fun x11 =>
    chk (I64 (x6 + (x11.instrs.length : Int))) <|
    chk (I64 (x7 + 1)) <|
    go8 ((x6 + (x11.instrs.length : Int)), (x7 + 1))
   else
    some false
  else
   some false
 else
  if x6 ≤ 16000 then
   bnd (lN m) fun x9 =>
   some x9
  else
   some false
def lI (m : PImage) (go : (Int × Int) → Option Bool) (v : Int × Int) : Option Bool :=
 match v with
 | (x6, x7) => aF m go x6 x7
def lG (m : PImage) (captures : Int) : Option Bool :=
 bnd (Z0 (m.codes.length : Int) 1 1500) fun x3 =>
 if x3 = true then
  chk (I64 ((m.codes.length : Int) - 1)) <|
  if m.main = ((m.codes.length : Int) - 1) then
   bnd (nth m.codes m.main) fun x4 =>
   if x4.params = 0 then
    bnd (nth m.codes m.main) fun x5 =>
    if x5.captures = captures then
     itr (lI m) LF (0, 0)
    else
     some false
   else
    some false
  else
   some false
 else
  some false
def C7 (out3 : LI) (go4 : (LB × LI) → Option (LI)) (x5 : LB × LB) (x7 : Int) : Option (LI) :=
 chk ((out3.length + ([x7] : LI).length) * 8 ≤ 140737488355328) <|
 go4 (x5.2, (out3 ++ ([x7] : LI)))
def B5 (go4 : (LB × LI) → Option (LI)) (s2 : LB) (out3 : LI) : Option (LI) :=
 if s2 = ([] : LB) then
  some out3
 else
  bnd (S8 s2) fun x5 =>
  bnd (K5 x5.1) fun x6 =>
  if x6.2 = true then
   C7 out3 go4 x5 x6.1
  else
   C7 out3 go4 x5 (-1)
def J1 (go : (LB × LI) → Option (LI)) (v : LB × LI) : Option (LI) :=
 match v with
 | (s2, out3) => B5 go s2 out3
def K6 (s : LB) : Option (LI) :=
 itr J1 LF (s, ([] : LI))
def Y7 (x2 : Int) (go4 : (Int × List PCode) → Option PImage) (x5 : List PCode) : Option PImage :=
 chk (I64 (x2 + 1)) <|
 go4 ((x2 + 1), x5)
def Q6 (lines : List (LB)) (go4 : (Int × List PCode) → Option PImage) (x2 : Int) (x3 : List PCode) : Option PImage :=
 if x2 < (lines.length : Int) then
  bnd (nth lines x2) fun x5 =>
  bnd (S8 x5) fun x6 =>
  if x6.1 = ([99, 111, 100, 101] : LB) then
   bnd (K6 x6.2) fun x7 =>
   chk ((x7.length + ([(-1), (-1), (-1)] : LI).length) * 8 ≤ 140737488355328) <|
   bnd (nth (x7 ++ ([(-1), (-1), (-1)] : LI)) 0) fun x8 =>
   bnd (nth (x7 ++ ([(-1), (-1), (-1)] : LI)) 1) fun x9 =>
   bnd (nth (x7 ++ ([(-1), (-1), (-1)] : LI)) 2) fun x10 =>
   chk ((x3.length + ([(PCode.mk x8 x9 x10 [])] : List PCode).length) * 48 ≤ 140737488355328) <|
   Y7 x2 go4 (x3 ++ ([(PCode.mk x8 x9 x10 [])] : List PCode))
  else
   bnd (bP x5) fun x7 =>
   if (x3.length : Int) = 0 then
    some (PImage.mk [] 0)
   else
    chk (I64 ((x3.length : Int) - 1)) <|
    bnd (nth x3 ((x3.length : Int) - 1)) fun x8 =>
    chk ((x8.instrs.length + ([x7.1] : List PInstr).length) * 72 ≤ 140737488355328) <|
    Y7 x2 go4 (x3.set ((x3.length : Int) - 1).toNat (PCode.mk x8.params x8.slots x8.captures (x8.instrs ++ ([x7.1] : List PInstr))))
 else
  chk (I64 ((x3.length : Int) - 1)) <|
  some (PImage.mk x3 ((x3.length : Int) - 1))
def D1 (lines : List (LB)) (go : (Int × List PCode) → Option PImage) (v : Int × List PCode) : Option PImage :=
 match v with
 | (x2, x3) => Q6 lines go x2 x3
def hY (lines : List (LB)) : Option PImage :=
 itr (D1 lines) LF (0, [])
end Go.Abs

namespace Go.Abs
set_option linter.unusedVariables false
def qZ (list : LI) : Option (LI) :=
 chk ((([] : LI).length + list.length) * 8 ≤ 140737488355328) <|
 some (([] : LI) ++ list)
def rA (s : LB) : Option Bool :=
 if (s.length : Int) ≤ 8 then
  bnd (S6 s) fun x2 =>
  some x2
 else
  some false
def M3 (list : LI) (x_1 : Int) (go4 : Int → Option Bool) (x3 : Int) : Option Bool :=
 if x3 < (list.length : Int) then
  bnd (nth list x3) fun x5 =>
  if x5 = x_1 then
   some true
  else
   chk (I64 (x3 + 1)) <|
   go4 (x3 + 1)
 else
  some false
def jG (list : LI) (x_1 : Int) (go : Int → Option Bool) (v : Int) : Option Bool :=
 match v with
 | x3 => M3 list x_1 go x3
def gX (list : LI) (x_1 : Int) : Option Bool :=
 itr (jG list x_1) LF 0
def M8 (list : LI) (go3 : Int → Option Bool) (x2 : Int) : Option Bool :=
 if x2 < (list.length : Int) then
  bnd (nth list x2) fun x4 =>
  bnd (Z0 x4 0 99999) fun x5 =>
  if x5 = true then
   chk (0 ≤ x2 ∧ x2 ≤ list.length) <|
   bnd (gX (list.take x2.toNat) x4) fun x6 =>
   if x6 = true then
    some false
   else
    chk (I64 (x2 + 1)) <|
    go3 (x2 + 1)
  else
   some false
 else
  some true
def jS (list : LI) (go : Int → Option Bool) (v : Int) : Option Bool :=
 match v with
 | x2 => M8 list go x2
def iB (list : LI) : Option Bool :=
 itr (jS list) LF 0
def gZ (o : PObj) : Option Bool :=
 bnd (qZ o.defines) fun x2 =>
 chk ((x2.length + o.uses.length) * 8 ≤ 140737488355328) <|
 bnd (rA o.name) fun x3 =>
 if x3 = true then
  bnd (iB (x2 ++ o.uses)) fun x4 =>
  if x4 = true then
   bnd (lG o.image ((x2 ++ o.uses).length : Int)) fun x5 =>
   some x5
  else
   some false
 else
  some false
def lT (a : List (LB)) (b : List (LB)) (go4 : Int → Option Bool) (x3 : Int) : Option Bool :=
 if x3 < (a.length : Int) then
  bnd (nth a x3) fun x5 =>
  bnd (nth b x3) fun x6 =>
  if x5 = x6 then
   chk (I64 (x3 + 1)) <|
   go4 (x3 + 1)
  else
   some false
 else
  some true
def xP (a : List (LB)) (b : List (LB)) (go : Int → Option Bool) (v : Int) : Option Bool :=
 match v with
 | x3 => lT a b go x3
def nC (a : List (LB)) (b : List (LB)) : Option Bool :=
 if (a.length : Int) = (b.length : Int) then
  itr (xP a b) LF 0
 else
  some false
def fV (x2 : Int) (go4 : (Int × List (LB)) → Option (List (LB))) (x5 : PCode) (go11 : (Int × List (LB)) → Option (List (LB))) (x9 : Int) (out10 : List (LB)) : Option (List (LB)) :=
 if x9 < (x5.instrs.length : Int) then
  bnd (nth x5.instrs x9) fun x12 =>
  bnd (E5 x12) fun x13 =>
  chk ((out10.length + ([x13] : List (LB)).length) * 16 ≤ 140737488355328) <|
  chk (I64 (x9 + 1)) <|
  go11 ((x9 + 1), (out10 ++ ([x13] : List (LB))))
 else
  chk (I64 (x2 + 1)) <|
  go4 ((x2 + 1), out10)
def jL (x2 : Int) (go4 : (Int × List (LB)) → Option (List (LB))) (x5 : PCode) (go : (Int × List (LB)) → Option (List (LB))) (v : Int × List (LB)) : Option (List (LB)) :=
 match v with
 | (x9, out10) => fV x2 go4 x5 go x9 out10
def fU (m : PImage) (go4 : (Int × List (LB)) → Option (List (LB))) (x2 : Int) (out3 : List (LB)) : Option (List (LB)) :=
 if x2 < (m.codes.length : Int) then
  bnd (nth m.codes x2) fun x5 =>
  bnd (v8 x5.params) fun x6 =>
  chk (([99, 111, 100, 101, 32] : LB).length + x6.length ≤ 9223372036854775807) <|
  chk ((([99, 111, 100, 101, 32] : LB) ++ x6).length + ([32] : LB).length ≤ 9223372036854775807) <|
  bnd (v8 x5.slots) fun x7 =>
  chk (((([99, 111, 100, 101, 32] : LB) ++ x6) ++ ([32] : LB)).length + x7.length ≤ 9223372036854775807) <|
  chk ((((([99, 111, 100, 101, 32] : LB) ++ x6) ++ ([32] : LB)) ++ x7).length + ([32] : LB).length ≤ 9223372036854775807) <|
  bnd (v8 x5.captures) fun x8 =>
  chk (((((([99, 111, 100, 101, 32] : LB) ++ x6) ++ ([32] : LB)) ++ x7) ++ ([32] : LB)).length + x8.length ≤ 9223372036854775807) <|
  chk ((out3.length + ([(((((([99, 111, 100, 101, 32] : LB) ++ x6) ++ ([32] : LB)) ++ x7) ++ ([32] : LB)) ++ x8)] : List (LB)).length) * 16 ≤ 140737488355328) <|
  itr (jL x2 go4 x5) LF (0, (out3 ++ ([(((((([99, 111, 100, 101, 32] : LB) ++ x6) ++ ([32] : LB)) ++ x7) ++ ([32] : LB)) ++ x8)] : List (LB))))
 else
  some out3
def jK (m : PImage) (go : (Int × List (LB)) → Option (List (LB))) (v : Int × List (LB)) : Option (List (LB)) :=
 match v with
 | (x2, out3) => fU m go x2 out3
def Y6 (m : PImage) : Option (List (LB)) :=
 itr (jK m) LF (0, ([] : List (LB)))
def Q5 (o : PObj) (a2 : LB) (go7 : (LB × Int) → Option (List (LB))) (b5 : LB) (x6 : Int) : Option (List (LB)) :=
 if x6 < (o.uses.length : Int) then
  bnd (nth o.uses x6) fun x8 =>
  chk (b5.length + ([32] : LB).length ≤ 9223372036854775807) <|
  bnd (v8 x8) fun x9 =>
  chk ((b5 ++ ([32] : LB)).length + x9.length ≤ 9223372036854775807) <|
  chk (I64 (x6 + 1)) <|
  go7 (((b5 ++ ([32] : LB)) ++ x9), (x6 + 1))
 else
  chk (([111, 98, 106, 101, 99, 116, 32] : LB).length + o.name.length ≤ 9223372036854775807) <|
  some ([(([111, 98, 106, 101, 99, 116, 32] : LB) ++ o.name), a2, b5] : List (LB))
def bQ (o : PObj) (a2 : LB) (go : (LB × Int) → Option (List (LB))) (v : LB × Int) : Option (List (LB)) :=
 match v with
 | (b5, x6) => Q5 o a2 go b5 x6
def Q4 (o : PObj) (go4 : (LB × Int) → Option (List (LB))) (a2 : LB) (x3 : Int) : Option (List (LB)) :=
 if x3 < (o.defines.length : Int) then
  bnd (nth o.defines x3) fun x5 =>
  chk (a2.length + ([32] : LB).length ≤ 9223372036854775807) <|
  bnd (v8 x5) fun x6 =>
  chk ((a2 ++ ([32] : LB)).length + x6.length ≤ 9223372036854775807) <|
  chk (I64 (x3 + 1)) <|
  go4 (((a2 ++ ([32] : LB)) ++ x6), (x3 + 1))
 else
  itr (bQ o a2) LF (([117, 115, 101, 115] : LB), 0)
def lL (o : PObj) (go : (LB × Int) → Option (List (LB))) (v : LB × Int) : Option (List (LB)) :=
 match v with
 | (a2, x3) => Q4 o go a2 x3
def hU (o : PObj) : Option (List (LB)) :=
 itr (lL o) LF (([100, 101, 102, 105, 110, 101, 115] : LB), 0)
def aJ (lines : List (LB)) : Option (PObj × Bool) :=
 if (lines.length : Int) < 3 then
  some ((PObj.mk ([] : LB) [] [] (PImage.mk [] 0)), false)
 else
  bnd (nth lines 0) fun x2 =>
  bnd (S8 x2) fun x3 =>
  bnd (nth lines 1) fun x4 =>
  bnd (S8 x4) fun x5 =>
  bnd (nth lines 2) fun x6 =>
  bnd (S8 x6) fun x7 =>
  bnd (K6 x5.2) fun x8 =>
  bnd (K6 x7.2) fun x9 =>
  chk (0 ≤ (3 : Int) ∧ (3 : Int) ≤ lines.length) <|
  bnd (hY (lines.drop (3 : Int).toNat)) fun x10 =>
  bnd (gZ (PObj.mk x3.2 x8 x9 x10)) fun x11 =>
  if x11 = true then
   bnd (hU (PObj.mk x3.2 x8 x9 x10)) fun x12 =>
   bnd (Y6 x10) fun x13 =>
   chk ((x12.length + x13.length) * 16 ≤ 140737488355328) <|
   bnd (nC (x12 ++ x13) lines) fun x14 =>
   if x14 = true then
    some ((PObj.mk x3.2 x8 x9 x10), true)
   else
    some ((PObj.mk ([] : LB) [] [] (PImage.mk [] 0)), false)
  else
   some ((PObj.mk ([] : LB) [] [] (PImage.mk [] 0)), false)
end Go.Abs

namespace Go.Abs
set_option linter.unusedVariables false
def U3 (a : List (LB)) (go5 : (Int × Int) → Option Int) (left3 : Int) (i4 : Int) : Option Int :=
 if i4 < (a.length : Int) then
  bnd (nth a i4) fun x6 =>
  chk (I64 (left3 - (x6.length : Int))) <|
  if (left3 - (x6.length : Int)) < 0 then
   some (-1)
  else
   chk (I64 (i4 + 1)) <|
   go5 ((left3 - (x6.length : Int)), (i4 + 1))
 else
  some left3
def gF (a : List (LB)) (go : (Int × Int) → Option Int) (v : Int × Int) : Option Int :=
 match v with
 | (left3, i4) => U3 a go left3 i4
def eY (a : List (LB)) (left : Int) : Option Int :=
 chk (I64 (left - (a.length : Int))) <|
 if (left - (a.length : Int)) < 0 then
  some (-1)
 else
  itr (gF a) LF ((left - (a.length : Int)), 0)
def U4 (a : List (LB)) (go4 : (Int × List (LB)) → Option (List (LB))) (i2 : Int) (out3 : List (LB)) : Option (List (LB)) :=
 if i2 < (a.length : Int) then
  bnd (nth a i2) fun x5 =>
  bnd (nth out3 i2) fun x6 =>
  chk (I64 (i2 + 1)) <|
  go4 ((i2 + 1), (out3.set i2.toNat x5))
 else
  some out3
def bF (a : List (LB)) (go : (Int × List (LB)) → Option (List (LB))) (v : Int × List (LB)) : Option (List (LB)) :=
 match v with
 | (i2, out3) => U4 a go i2 out3
def N1 (a : List (LB)) : Option (List (LB)) :=
 chk (0 ≤ (a.length : Int) ∧ (16 : Nat) * (a.length : Int) ≤ 281474976710656 ∧ (a.length : Int) ≤ 281474976710656) <|
 itr (bF a) LF (0, (List.replicate (a.length : Int).toNat (([] : LB) : LB)))
def eQ (a : List (LB)) (b : List (LB)) (go4 : Int → Option Bool) (i3 : Int) : Option Bool :=
 if i3 < (a.length : Int) then
  bnd (nth a i3) fun x5 =>
  bnd (nth b i3) fun x6 =>
  if x5 = x6 then
   chk (I64 (i3 + 1)) <|
   go4 (i3 + 1)
  else
   some false
 else
  some true
def gA (a : List (LB)) (b : List (LB)) (go : Int → Option Bool) (v : Int) : Option Bool :=
 match v with
 | i3 => eQ a b go i3
def eP (a : List (LB)) (b : List (LB)) : Option Bool :=
 if (a.length : Int) = (b.length : Int) then
  itr (gA a b) LF 0
 else
  some false
def W6 (go4 : (Int × LB) → Option (LB)) (k2 : Int) (out3 : LB) : Option (LB) :=
 if k2 > 0 then
  chk (0 ≤ k2 ∧ k2 ≤ 9223372036854775807 ∧ (0 : Int) < 10) <|
  chk (I64 (48 + (k2 % 10))) <|
  chk (0 ≤ (48 + (k2 % 10)) ∧ (48 + (k2 % 10)) ≤ 255) <|
  chk (([(UInt8.ofNat (48 + (k2 % 10)).toNat)] : LB).length + out3.length ≤ 9223372036854775807) <|
  chk (0 ≤ k2 ∧ k2 ≤ 9223372036854775807 ∧ (0 : Int) < 10) <|
  go4 ((k2 / 10), (([(UInt8.ofNat (48 + (k2 % 10)).toNat)] : LB) ++ out3))
 else
  chk (([109] : LB).length + out3.length ≤ 9223372036854775807) <|
  some (([109] : LB) ++ out3)
def kB (go : (Int × LB) → Option (LB)) (v : Int × LB) : Option (LB) :=
 match v with
 | (k2, out3) => W6 go k2 out3
def I3 (k : Int) : Option (LB) :=
 if k ≤ 0 then
  some ([109, 48] : LB)
 else
  itr kB LF (k, ([] : LB))
def O9 (go6 : (Int × Int × List (LB)) → Option (Int × List (LB))) (k3 : Int) (i4 : Int) (a5 : List (LB)) : Option (Int × List (LB)) :=
 if i4 < (a5.length : Int) then
  bnd (I3 k3) fun x7 =>
  bnd (nth a5 i4) fun x8 =>
  chk (I64 (k3 + 1)) <|
  chk (I64 (i4 + 1)) <|
  go6 ((k3 + 1), (i4 + 1), (a5.set i4.toNat x7))
 else
  some (k3, a5)
def cM (go : (Int × Int × List (LB)) → Option (Int × List (LB))) (v : Int × Int × List (LB)) : Option (Int × List (LB)) :=
 match v with
 | (k3, i4, a5) => O9 go k3 i4 a5
def aM (a : List (LB)) (k : Int) : Option (Int × List (LB)) :=
 itr cM LF (k, 0, a)
def eO (t7 : PD → PD → Option Bool) (A4 : List PD → List PD → Option Bool) (a : PD) (b : PD) : Option Bool :=
 if a.kind = b.kind then
  if a.number = b.number then
   if a.text = b.text then
    bnd (A4 a.items b.items) fun x5 =>
    if x5 = true then
     some true
    else
     some false
   else
    some false
  else
   some false
 else
  some false
def fY (t7 : PD → PD → Option Bool) (a : List PD) (b : List PD) (go6 : Int → Option Bool) (i5 : Int) : Option Bool :=
 if i5 < (a.length : Int) then
  bnd (nth a i5) fun x7 =>
  bnd (nth b i5) fun x8 =>
  bnd (t7 x7 x8) fun x9 =>
  if x9 = true then
   chk (I64 (i5 + 1)) <|
   go6 (i5 + 1)
  else
   some false
 else
  some true
def jW (t7 : PD → PD → Option Bool) (a : List PD) (b : List PD) (go : Int → Option Bool) (v : Int) : Option Bool :=
 match v with
 | i5 => fY t7 a b go i5
def bW (t7 : PD → PD → Option Bool) (A4 : List PD → List PD → Option Bool) (a : List PD) (b : List PD) : Option Bool :=
 if (a.length : Int) = (b.length : Int) then
  itr (jW t7 a b) LF 0
 else
  some false
mutual
def t7 : Nat → PD → PD → Option Bool
 | 0, _, _ => none
 | n + 1, a, b => eO (t7 n) (A4 n) a b
def A4 : Nat → List PD → List PD → Option Bool
 | 0, _, _ => none
 | n + 1, a, b => bW (t7 n) (A4 n) a b
end
def iI (a : PInstr) (b : PInstr) : Option Bool :=
 if a.op = b.op then
  if a.a = b.a then
   bnd (t7 RF a.d b.d) fun x3 =>
   if x3 = true then
    some true
   else
    some false
  else
   some false
 else
  some false
def fZ (a : List PInstr) (b : List PInstr) (go4 : Int → Option Bool) (i3 : Int) : Option Bool :=
 if i3 < (a.length : Int) then
  bnd (nth a i3) fun x5 =>
  bnd (nth b i3) fun x6 =>
  bnd (iI x5 x6) fun x7 =>
  if x7 = true then
   chk (I64 (i3 + 1)) <|
   go4 (i3 + 1)
  else
   some false
 else
  some true
def jX (a : List PInstr) (b : List PInstr) (go : Int → Option Bool) (v : Int) : Option Bool :=
 match v with
 | i3 => fZ a b go i3
def nG (a : List PInstr) (b : List PInstr) : Option Bool :=
 if (a.length : Int) = (b.length : Int) then
  itr (jX a b) LF 0
 else
  some false
def nF (a : PCode) (b : PCode) : Option Bool :=
 if a.params = b.params then
  if a.slots = b.slots then
   if a.captures = b.captures then
    bnd (nG a.instrs b.instrs) fun x3 =>
    if x3 = true then
     some true
    else
     some false
   else
    some false
  else
   some false
 else
  some false
def jV (a : List PCode) (b : List PCode) (go4 : Int → Option Bool) (i3 : Int) : Option Bool :=
 if i3 < (a.length : Int) then
  bnd (nth a i3) fun x5 =>
  bnd (nth b i3) fun x6 =>
  bnd (nF x5 x6) fun x7 =>
  if x7 = true then
   chk (I64 (i3 + 1)) <|
   go4 (i3 + 1)
  else
   some false
 else
  some true
def lV (a : List PCode) (b : List PCode) (go : Int → Option Bool) (v : Int) : Option Bool :=
 match v with
 | i3 => jV a b go i3
def rJ (a : List PCode) (b : List PCode) : Option Bool :=
 if (a.length : Int) = (b.length : Int) then
  itr (lV a b) LF 0
 else
  some false
def lW (a : PImage) (b : PImage) : Option Bool :=
 bnd (rJ a.codes b.codes) fun x3 =>
 if x3 = true then
  if a.main = b.main then
   some true
  else
   some false
 else
  some false
def lX (a : LI) (b : LI) (go4 : Int → Option Bool) (i3 : Int) : Option Bool :=
 if i3 < (a.length : Int) then
  bnd (nth a i3) fun x5 =>
  bnd (nth b i3) fun x6 =>
  if x5 = x6 then
   chk (I64 (i3 + 1)) <|
   go4 (i3 + 1)
  else
   some false
 else
  some true
def oY (a : LI) (b : LI) (go : Int → Option Bool) (v : Int) : Option Bool :=
 match v with
 | i3 => lX a b go i3
def nI (a : LI) (b : LI) : Option Bool :=
 if (a.length : Int) = (b.length : Int) then
  itr (oY a b) LF 0
 else
  some false
def aY (a : PObj) (b : PObj) : Option Bool :=
 if a.name = b.name then
  bnd (nI a.defines b.defines) fun x3 =>
  if x3 = true then
   bnd (nI a.uses b.uses) fun x4 =>
   if x4 = true then
    bnd (lW a.image b.image) fun x5 =>
    if x5 = true then
     some true
    else
     some false
   else
    some false
  else
   some false
 else
  some false
def F7 (s6 : List PD → Int → Option (Int × List PD)) (go7 : (Int × Int × List PD) → Option (Int × List PD)) (k4 : Int) (i5 : Int) (a6 : List PD) : Option (Int × List PD) :=
 if i5 < (a6.length : Int) then
  bnd (nth a6 i5) fun x8 =>
  chk (I64 (k4 + 1)) <|
  bnd (nth (a6.set i5.toNat (PD.mk k4 x8.number x8.text x8.items)) i5) fun x9 =>
  chk (I64 ((k4 + 1) + 1)) <|
  bnd (I3 ((k4 + 1) + 1)) fun x10 =>
  bnd (nth ((a6.set i5.toNat (PD.mk k4 x8.number x8.text x8.items)).set i5.toNat (PD.mk x9.kind (k4 + 1) x9.text x9.items)) i5) fun x11 =>
  chk (I64 (((k4 + 1) + 1) + 1)) <|
  bnd (nth (((a6.set i5.toNat (PD.mk k4 x8.number x8.text x8.items)).set i5.toNat (PD.mk x9.kind (k4 + 1) x9.text x9.items)).set i5.toNat (PD.mk x11.kind x11.number x10 x11.items)) i5) fun x12 =>
  bnd (s6 x12.items (((k4 + 1) + 1) + 1)) fun x13 =>
  chk (x13.2.length = x12.items.length) <|
  chk (I64 (i5 + 1)) <|
  go7 (x13.1, (i5 + 1), ((((a6.set i5.toNat (PD.mk k4 x8.number x8.text x8.items)).set i5.toNat (PD.mk x9.kind (k4 + 1) x9.text x9.items)).set i5.toNat (PD.mk x11.kind x11.number x10 x11.items)).set i5.toNat (PD.mk x12.kind x12.number x12.text x13.2)))
 else
  some (k4, a6)
def eV (s6 : List PD → Int → Option (Int × List PD)) (go : (Int × Int × List PD) → Option (Int × List PD)) (v : Int × Int × List PD) : Option (Int × List PD) :=
 match v with
 | (k4, i5, a6) => F7 s6 go k4 i5 a6
def W5 (s6 : List PD → Int → Option (Int × List PD)) (a : List PD) (k : Int) : Option (Int × List PD) :=
 itr (eV s6) LF (k, 0, a)
def s6 : Nat → List PD → Int → Option (Int × List PD)
 | 0, _, _ => none
 | n + 1, a, k => W5 (s6 n) a k
def F8 (a : List PInstr) (go6 : (Int × Int × List PInstr) → Option (Int × List PInstr)) (k3 : Int) (i4 : Int) (a5 : List PInstr) : Option (Int × List PInstr) :=
 if i4 < (a5.length : Int) then
  bnd (nth a5 i4) fun x7 =>
  chk (I64 (k3 + 1)) <|
  bnd (nth (a5.set i4.toNat (PInstr.mk k3 x7.a x7.d)) i4) fun x8 =>
  chk (I64 ((k3 + 1) + 1)) <|
  bnd (nth ((a5.set i4.toNat (PInstr.mk k3 x7.a x7.d)).set i4.toNat (PInstr.mk x8.op (k3 + 1) x8.d)) i4) fun x9 =>
  chk (I64 (((k3 + 1) + 1) + 1)) <|
  bnd (nth (((a5.set i4.toNat (PInstr.mk k3 x7.a x7.d)).set i4.toNat (PInstr.mk x8.op (k3 + 1) x8.d)).set i4.toNat (PInstr.mk x9.op x9.a (PD.mk ((k3 + 1) + 1) x9.d.number x9.d.text x9.d.items))) i4) fun x10 =>
  chk (I64 ((((k3 + 1) + 1) + 1) + 1)) <|
  bnd (I3 ((((k3 + 1) + 1) + 1) + 1)) fun x11 =>
  bnd (nth ((((a5.set i4.toNat (PInstr.mk k3 x7.a x7.d)).set i4.toNat (PInstr.mk x8.op (k3 + 1) x8.d)).set i4.toNat (PInstr.mk x9.op x9.a (PD.mk ((k3 + 1) + 1) x9.d.number x9.d.text x9.d.items))).set i4.toNat (PInstr.mk x10.op x10.a (PD.mk x10.d.kind (((k3 + 1) + 1) + 1) x10.d.text x10.d.items))) i4) fun x12 =>
  chk (I64 (((((k3 + 1) + 1) + 1) + 1) + 1)) <|
  bnd (nth (((((a5.set i4.toNat (PInstr.mk k3 x7.a x7.d)).set i4.toNat (PInstr.mk x8.op (k3 + 1) x8.d)).set i4.toNat (PInstr.mk x9.op x9.a (PD.mk ((k3 + 1) + 1) x9.d.number x9.d.text x9.d.items))).set i4.toNat (PInstr.mk x10.op x10.a (PD.mk x10.d.kind (((k3 + 1) + 1) + 1) x10.d.text x10.d.items))).set i4.toNat (PInstr.mk x12.op x12.a (PD.mk x12.d.kind x12.d.number x11 x12.d.items))) i4) fun x13 =>
  bnd (s6 RF x13.d.items (((((k3 + 1) + 1) + 1) + 1) + 1)) fun x14 =>
  chk (x14.2.length = x13.d.items.length) <|
  chk (I64 (i4 + 1)) <|
  go6 (x14.1, (i4 + 1), ((((((a5.set i4.toNat (PInstr.mk k3 x7.a x7.d)).set i4.toNat (PInstr.mk x8.op (k3 + 1) x8.d)).set i4.toNat (PInstr.mk x9.op x9.a (PD.mk ((k3 + 1) + 1) x9.d.number x9.d.text x9.d.items))).set i4.toNat (PInstr.mk x10.op x10.a (PD.mk x10.d.kind (((k3 + 1) + 1) + 1) x10.d.text x10.d.items))).set i4.toNat (PInstr.mk x12.op x12.a (PD.mk x12.d.kind x12.d.number x11 x12.d.items))).set i4.toNat (PInstr.mk x13.op x13.a (PD.mk x13.d.kind x13.d.number x13.d.text x14.2))))
 else
  some (k3, a5)
def eX (a : List PInstr) (go : (Int × Int × List PInstr) → Option (Int × List PInstr)) (v : Int × Int × List PInstr) : Option (Int × List PInstr) :=
 match v with
 | (k3, i4, a5) => F8 a go k3 i4 a5
def bY (a : List PInstr) (k : Int) : Option (Int × List PInstr) :=
 itr (eX a) LF (k, 0, a)
def J4 (go6 : (Int × Int × List PCode) → Option (Int × List PCode)) (k3 : Int) (i4 : Int) (a5 : List PCode) : Option (Int × List PCode) :=
 if i4 < (a5.length : Int) then
  bnd (nth a5 i4) fun x7 =>
  chk (I64 (k3 + 1)) <|
  bnd (nth (a5.set i4.toNat (PCode.mk k3 x7.slots x7.captures x7.instrs)) i4) fun x8 =>
  chk (I64 ((k3 + 1) + 1)) <|
  bnd (nth ((a5.set i4.toNat (PCode.mk k3 x7.slots x7.captures x7.instrs)).set i4.toNat (PCode.mk x8.params (k3 + 1) x8.captures x8.instrs)) i4) fun x9 =>
  chk (I64 (((k3 + 1) + 1) + 1)) <|
  bnd (nth (((a5.set i4.toNat (PCode.mk k3 x7.slots x7.captures x7.instrs)).set i4.toNat (PCode.mk x8.params (k3 + 1) x8.captures x8.instrs)).set i4.toNat (PCode.mk x9.params x9.slots ((k3 + 1) + 1) x9.instrs)) i4) fun x10 =>
  bnd (bY x10.instrs (((k3 + 1) + 1) + 1)) fun x11 =>
  chk (x11.2.length = x10.instrs.length) <|
  chk (I64 (i4 + 1)) <|
  go6 (x11.1, (i4 + 1), ((((a5.set i4.toNat (PCode.mk k3 x7.slots x7.captures x7.instrs)).set i4.toNat (PCode.mk x8.params (k3 + 1) x8.captures x8.instrs)).set i4.toNat (PCode.mk x9.params x9.slots ((k3 + 1) + 1) x9.instrs)).set i4.toNat (PCode.mk x10.params x10.slots x10.captures x11.2)))
 else
  some (k3, a5)
def gD (go : (Int × Int × List PCode) → Option (Int × List PCode)) (v : Int × Int × List PCode) : Option (Int × List PCode) :=
 match v with
 | (k3, i4, a5) => J4 go k3 i4 a5
def eU (a : List PCode) (k : Int) : Option (Int × List PCode) :=
 itr gD LF (k, 0, a)
def eW (a : PImage) (k : Int) : Option (Int × List PCode) :=
 bnd (eU a.codes k) fun x3 =>
 chk (x3.2.length = a.codes.length) <|
 some (x3.1, x3.2)
def N0 (go6 : (Int × Int × LI) → Option (Int × LI)) (k3 : Int) (i4 : Int) (a5 : LI) : Option (Int × LI) :=
 if i4 < (a5.length : Int) then
  bnd (nth a5 i4) fun x7 =>
  chk (I64 (k3 + 1)) <|
  chk (I64 (i4 + 1)) <|
  go6 ((k3 + 1), (i4 + 1), (a5.set i4.toNat k3))
 else
  some (k3, a5)
def kA (go : (Int × Int × LI) → Option (Int × LI)) (v : Int × Int × LI) : Option (Int × LI) :=
 match v with
 | (k3, i4, a5) => N0 go k3 i4 a5
def cZ (a : LI) (k : Int) : Option (Int × LI) :=
 itr kA LF (k, 0, a)
def bZ (a : PObj) (k : Int) : Option (Int × LI × LI × List PCode) :=
 bnd (cZ a.defines k) fun x3 =>
 chk (x3.2.length = a.defines.length) <|
 bnd (cZ a.uses x3.1) fun x4 =>
 chk (x4.2.length = a.uses.length) <|
 bnd (eW a.image x4.1) fun x5 =>
 chk (x5.2.length = a.image.codes.length) <|
 some (x5.1, x3.2, x4.2, x5.2)
def F5 (s5 : List PD → Int → Option Int) (a : List PD) (go6 : (Int × Int) → Option Int) (k4 : Int) (i5 : Int) : Option Int :=
 if i5 < (a.length : Int) then
  bnd (nth a i5) fun x7 =>
  if x7.kind = k4 then
   chk (I64 (k4 + 1)) <|
   bnd (nth a i5) fun x8 =>
   if x8.number = (k4 + 1) then
    chk (I64 ((k4 + 1) + 1)) <|
    bnd (nth a i5) fun x9 =>
    bnd (I3 ((k4 + 1) + 1)) fun x10 =>
    if x9.text = x10 then
     chk (I64 (((k4 + 1) + 1) + 1)) <|
     bnd (nth a i5) fun x11 =>
     bnd (s5 x11.items (((k4 + 1) + 1) + 1)) fun x12 =>
     if x12 < 0 then
      some (-1)
     else
      chk (I64 (i5 + 1)) <|
      go6 (x12, (i5 + 1))
    else
     some (-1)
   else
    some (-1)
  else
   some (-1)
 else
  some k4
def eS (s5 : List PD → Int → Option Int) (a : List PD) (go : (Int × Int) → Option Int) (v : Int × Int) : Option Int :=
 match v with
 | (k4, i5) => F5 s5 a go k4 i5
def W4 (s5 : List PD → Int → Option Int) (a : List PD) (k : Int) : Option Int :=
 itr (eS s5 a) LF (k, 0)
def s5 : Nat → List PD → Int → Option Int
 | 0, _, _ => none
 | n + 1, a, k => W4 (s5 n) a k
def F6 (a : List PInstr) (go5 : (Int × Int) → Option Int) (k3 : Int) (i4 : Int) : Option Int :=
 if i4 < (a.length : Int) then
  bnd (nth a i4) fun x6 =>
  if x6.op = k3 then
   chk (I64 (k3 + 1)) <|
   bnd (nth a i4) fun x7 =>
   if x7.a = (k3 + 1) then
    chk (I64 ((k3 + 1) + 1)) <|
    bnd (nth a i4) fun x8 =>
    if x8.d.kind = ((k3 + 1) + 1) then
     chk (I64 (((k3 + 1) + 1) + 1)) <|
     bnd (nth a i4) fun x9 =>
     if x9.d.number = (((k3 + 1) + 1) + 1) then
      chk (I64 ((((k3 + 1) + 1) + 1) + 1)) <|
      bnd (nth a i4) fun x10 =>
      bnd (I3 ((((k3 + 1) + 1) + 1) + 1)) fun x11 =>
      if x10.d.text = x11 then
       chk (I64 (((((k3 + 1) + 1) + 1) + 1) + 1)) <|
       bnd (nth a i4) fun x12 =>
       bnd (s5 RF x12.d.items (((((k3 + 1) + 1) + 1) + 1) + 1)) fun x13 =>
       if x13 < 0 then
        some (-1)
       else
        chk (I64 (i4 + 1)) <|
        go5 (x13, (i4 + 1))
      else
       some (-1)
     else
      some (-1)
    else
     some (-1)
   else
    some (-1)
  else
   some (-1)
 else
  some k3
def eT (a : List PInstr) (go : (Int × Int) → Option Int) (v : Int × Int) : Option Int :=
 match v with
 | (k3, i4) => F6 a go k3 i4
def bX (a : List PInstr) (k : Int) : Option Int :=
 itr (eT a) LF (k, 0)
def J3 (a : List PCode) (go5 : (Int × Int) → Option Int) (k3 : Int) (i4 : Int) : Option Int :=
 if i4 < (a.length : Int) then
  bnd (nth a i4) fun x6 =>
  if x6.params = k3 then
   chk (I64 (k3 + 1)) <|
   bnd (nth a i4) fun x7 =>
   if x7.slots = (k3 + 1) then
    chk (I64 ((k3 + 1) + 1)) <|
    bnd (nth a i4) fun x8 =>
    if x8.captures = ((k3 + 1) + 1) then
     chk (I64 (((k3 + 1) + 1) + 1)) <|
     bnd (nth a i4) fun x9 =>
     bnd (bX x9.instrs (((k3 + 1) + 1) + 1)) fun x10 =>
     if x10 < 0 then
      some (-1)
     else
      chk (I64 (i4 + 1)) <|
      go5 (x10, (i4 + 1))
    else
     some (-1)
   else
    some (-1)
  else
   some (-1)
 else
  some k3
def gB (a : List PCode) (go : (Int × Int) → Option Int) (v : Int × Int) : Option Int :=
 match v with
 | (k3, i4) => J3 a go k3 i4
def eR (a : List PCode) (k : Int) : Option Int :=
 itr (gB a) LF (k, 0)
def aZ (a : PImage) (k : Int) : Option Int :=
 bnd (eR a.codes k) fun x3 =>
 if x3 < 0 then
  some (-1)
 else
  some x3
def M9 (a : LI) (go5 : (Int × Int) → Option Int) (k3 : Int) (i4 : Int) : Option Int :=
 if i4 < (a.length : Int) then
  bnd (nth a i4) fun x6 =>
  if x6 = k3 then
   chk (I64 (k3 + 1)) <|
   chk (I64 (i4 + 1)) <|
   go5 ((k3 + 1), (i4 + 1))
  else
   some (-1)
 else
  some k3
def jZ (a : LI) (go : (Int × Int) → Option Int) (v : Int × Int) : Option Int :=
 match v with
 | (k3, i4) => M9 a go k3 i4
def Z3 (a : LI) (k : Int) : Option Int :=
 itr (jZ a) LF (k, 0)
def Z4 (a : PObj) (k : Int) : Option Int :=
 bnd (Z3 a.defines k) fun x3 =>
 if x3 < 0 then
  some (-1)
 else
  bnd (Z3 a.uses x3) fun x4 =>
  if x4 < 0 then
   some (-1)
  else
   bnd (aZ a.image x4) fun x5 =>
   if x5 < 0 then
    some (-1)
   else
    some x5
def N6 (aLines : List (LB)) : Option Bool :=
 bnd (eY aLines 1048576) fun x2 =>
 if x2 < 0 then
  some true
 else
  bnd (N1 aLines) fun x3 =>
  bnd (aJ x3) fun x4 =>
  bnd (N1 aLines) fun x5 =>
  bnd (V0 x5) fun x6 =>
  bnd (aY x6.1 x4.1) fun x7 =>
  if x7 = true then
   if x6.2 = x4.2 then
    bnd (N1 aLines) fun x8 =>
    bnd (eP x5 x8) fun x9 =>
    if x9 = true then
     bnd (aM x5 1) fun x10 =>
     chk (x10.2.length = x5.length) <|
     if x10.1 < 0 then
      some false
     else
      bnd (aY x6.1 x4.1) fun x11 =>
      if x11 = true then
       if x6.2 = x4.2 then
        bnd (bZ x6.1 1) fun x12 =>
        chk (x12.2.1.length = x6.1.defines.length) <|
        chk (x12.2.2.1.length = x6.1.uses.length) <|
        chk (x12.2.2.2.length = x6.1.image.codes.length) <|
        bnd (Z4 (PObj.mk x6.1.name x12.2.1 x12.2.2.1 (PImage.mk x12.2.2.2 x6.1.image.main)) 1) fun x13 =>
        if x13 < 0 then
         some false
        else
         if x13 = x12.1 then
          bnd (N1 aLines) fun x14 =>
          bnd (V0 x14) fun x15 =>
          bnd (aY x15.1 x4.1) fun x16 =>
          if x16 = true then
           if x15.2 = x4.2 then
            bnd (Z4 (PObj.mk x6.1.name x12.2.1 x12.2.2.1 (PImage.mk x12.2.2.2 x6.1.image.main)) 1) fun x17 =>
            if x17 < 0 then
             some false
            else
             if x17 = x12.1 then
              some true
             else
              some false
           else
            some false
          else
           some false
         else
          some false
       else
        some false
      else
       some false
    else
     some false
   else
    some false
  else
   some false
end Go.Abs
