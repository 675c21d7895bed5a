
import Derived.Test.YtmgigglpdhoneaaGreatDoorLibD
import Derived.Test.YtmgigglpdhoneaaGreatDoorLibE
import Derived.Test.YtmgigglpdhoneaaGreatDoorLibV
set_option linter.unusedVariables false
set_option linter.unusedSimpArgs false
namespace Go.Abs
set_option linter.unusedVariables false
def w6 (x_1 : Int) : Option (LB) :=
 bnd (x_Itoa x_1) fun x2 =>
 some x2
def V1 (b : Int) : Option Bool :=
 if b ≥ 48 then
  some (decide (b ≤ 57))
 else
  some false
def o9 (b : Int) (x2 : Bool) : Option Bool :=
 if x2 = true then
  some true
 else
  if b = 33 then
   some true
  else
   if b = 63 then
    some true
   else
    if b = 42 then
     some true
    else
     if b = 60 then
      some true
     else
      if b = 62 then
       some true
      else
       if b = 61 then
        some true
       else
        if b = 47 then
         some true
        else
         if b = 43 then
          some true
         else
          if b = 45 then
           some true
          else
           if b = 46 then
            some true
           else
            if b = 95 then
             some true
            else
             some false
def N4 (b : Int) : Option Bool :=
 if b ≥ 97 then
  if b ≤ 122 then
   o9 b true
  else
   if b ≥ 48 then
    o9 b (decide (b ≤ 57))
   else
    o9 b false
 else
  if b ≥ 48 then
   o9 b (decide (b ≤ 57))
  else
   o9 b false
def A2 (s : LB) (go4 : Int → Option Bool) (i3 : Int) : Option Bool :=
 if i3 < (s.length : Int) then
  bnd (nth s i3) fun x5 =>
  bnd (N4 (x5.toNat : Int)) fun x6 =>
  if x6 = true then
   chk (I64 (i3 + 1)) <|
   go4 (i3 + 1)
  else
   some false
 else
  some true
def X1 (s : LB) (go : Int → Option Bool) (v : Int) : Option Bool :=
 match v with
 | i3 => A2 s go i3
def s5 (s : LB) (x2 : Bool) : Option Bool :=
 if x2 = true then
  some false
 else
  itr (X1 s) LF 0
def P6 (s : LB) : Option Bool :=
 if (s.length : Int) < 1 then
  s5 s true
 else
  if (s.length : Int) > 16 then
   s5 s true
  else
   bnd (nth s 0) fun x2 =>
   bnd (V1 (x2.toNat : Int)) fun x3 =>
   if x3 = true then
    s5 s true
   else
    bnd (nth s 0) fun x4 =>
    if (x4.toNat : Int) = 45 then
     if (s.length : Int) > 1 then
      bnd (nth s 1) fun x5 =>
      bnd (V1 (x5.toNat : Int)) fun x6 =>
      s5 s x6
     else
      s5 s false
    else
     s5 s false
def u7 (s : LB) (go3 : Int → Option Bool) (i2 : Int) : Option Bool :=
 if i2 < (s.length : Int) then
  bnd (nth s i2) fun x4 =>
  if (x4.toNat : Int) < 32 then
   some false
  else
   bnd (nth s i2) fun x5 =>
   if (x5.toNat : Int) > 126 then
    some false
   else
    bnd (nth s i2) fun x6 =>
    if (x6.toNat : Int) = 34 then
     some false
    else
     chk (I64 (i2 + 1)) <|
     go3 (i2 + 1)
 else
  some true
def Q8 (s : LB) (go : Int → Option Bool) (v : Int) : Option Bool :=
 match v with
 | i2 => u7 s go i2
def E8 (s : LB) : Option Bool :=
 if (s.length : Int) > 20 then
  some false
 else
  itr (Q8 s) LF 0
def Q7 (kind : Int) (number : Int) (text : LB) (items : Int) : Option Bool :=
 if kind = 0 then
  if number = 0 then
   some (decide (text = ([] : LB)))
  else
   some false
 else
  if kind = 1 then
   if number = 0 then
    if items = 0 then
     bnd (P6 text) fun x5 =>
     some x5
    else
     some false
   else
    some false
  else
   if kind = 2 then
    if number ≥ (-999999999) then
     if number ≤ 999999999 then
      if text = ([] : LB) then
       some (decide (items = 0))
      else
       some false
     else
      some false
    else
     some false
   else
    if kind = 3 then
     if number = 0 then
      if text = ([] : LB) then
       some (decide (items = 0))
      else
       some false
     else
      if number = 1 then
       if text = ([] : LB) then
        some (decide (items = 0))
       else
        some false
      else
       some false
    else
     if kind = 4 then
      if number = 0 then
       if items = 0 then
        bnd (E8 text) fun x5 =>
        some x5
       else
        some false
      else
       some false
     else
      some false
def C6 (n8 : PD → Int → Int → Option (Bool × Int)) (d : PD) (deep : Int) (go8 : (Int × Int) → Option (Bool × Int)) (x6 : Int) (nodes7 : Int) : Option (Bool × Int) :=
 if x6 < (d.items.length : Int) then
  bnd (nth d.items x6) fun x9 =>
  chk (I64 (deep + 1)) <|
  bnd (n8 x9 (deep + 1) nodes7) fun x10 =>
  if x10.1 = true then
   chk (I64 (x6 + 1)) <|
   go8 ((x6 + 1), x10.2)
  else
   some (false, x10.2)
 else
  some (true, nodes7)
def aQ (n8 : PD → Int → Int → Option (Bool × Int)) (d : PD) (deep : Int) (go : (Int × Int) → Option (Bool × Int)) (v : Int × Int) : Option (Bool × Int) :=
 match v with
 | (x6, nodes7) => C6 n8 d deep go x6 nodes7
def Q6 (n8 : PD → Int → Int → Option (Bool × Int)) (d : PD) (deep : Int) (nodes : Int) : Option (Bool × Int) :=
 chk (I64 (nodes + 1)) <|
 if deep > 20 then
  some (false, (nodes + 1))
 else
  if (nodes + 1) > 600 then
   some (false, (nodes + 1))
  else
   bnd (Q7 d.kind d.number d.text (d.items.length : Int)) fun x5 =>
   if x5 = true then
    itr (aQ n8 d deep) LF (0, (nodes + 1))
   else
    some (false, (nodes + 1))
def n8 : Nat → PD → Int → Int → Option (Bool × Int)
 | 0, _, _, _ => none
 | n + 1, d, deep, nodes => Q6 (n8 n) d deep nodes
def V0 (d : PD) : Option Bool :=
 bnd (n8 RF d 1 0) fun x2 =>
 some x2.1
def w9 (j4 : LB → PD → Option (LB)) (x4 : Int) (go6 : (Int × LB) → Option (LB)) (x7 : PD) (out8 : LB) : Option (LB) :=
 bnd (j4 out8 x7) fun x9 =>
 chk (I64 (x4 + 1)) <|
 go6 ((x4 + 1), x9)
def D6 (j4 : LB → PD → Option (LB)) (d : PD) (go6 : (Int × LB) → Option (LB)) (x4 : Int) (out5 : LB) : Option (LB) :=
 if x4 < (d.items.length : Int) then
  bnd (nth d.items x4) fun x7 =>
  if x4 > 0 then
   chk ((out5.length + ([32] : LB).length) * 1 ≤ 140737488355328) <|
   w9 j4 x4 go6 x7 (out5 ++ ([32] : LB))
  else
   w9 j4 x4 go6 x7 out5
 else
  chk ((out5.length + ([41] : LB).length) * 1 ≤ 140737488355328) <|
  some (out5 ++ ([41] : LB))
def Q9 (j4 : LB → PD → Option (LB)) (d : PD) (go : (Int × LB) → Option (LB)) (v : Int × LB) : Option (LB) :=
 match v with
 | (x4, out5) => D6 j4 d go x4 out5
def G9 (j4 : LB → PD → Option (LB)) (out : LB) (d : PD) : Option (LB) :=
 if d.kind = 1 then
  chk ((out.length + d.text.length) * 1 ≤ 140737488355328) <|
  some (out ++ d.text)
 else
  if d.kind = 2 then
   bnd (w6 d.number) fun x4 =>
   chk ((out.length + x4.length) * 1 ≤ 140737488355328) <|
   some (out ++ x4)
  else
   if d.kind = 3 then
    if d.number = 1 then
     chk ((out.length + ([35, 116] : LB).length) * 1 ≤ 140737488355328) <|
     some (out ++ ([35, 116] : LB))
    else
     chk ((out.length + ([35, 102] : LB).length) * 1 ≤ 140737488355328) <|
     some (out ++ ([35, 102] : LB))
   else
    if d.kind = 4 then
     chk ((out.length + ([34] : LB).length) * 1 ≤ 140737488355328) <|
     chk (((out ++ ([34] : LB)).length + d.text.length) * 1 ≤ 140737488355328) <|
     chk ((((out ++ ([34] : LB)) ++ d.text).length + ([34] : LB).length) * 1 ≤ 140737488355328) <|
     some (((out ++ ([34] : LB)) ++ d.text) ++ ([34] : LB))
    else
     chk ((out.length + ([40] : LB).length) * 1 ≤ 140737488355328) <|
     itr (Q9 j4 d) LF (0, (out ++ ([40] : LB)))
def j4 : Nat → LB → PD → Option (LB)
 | 0, _, _ => none
 | n + 1, out, d => G9 (j4 n) out d
def K1 (d : PD) : Option (LB) :=
 bnd (V0 d) fun x2 =>
 if x2 = true then
  bnd (j4 RF [] d) fun x3 =>
  some x3
 else
  some ([] : LB)
def O9 (op : Int) : Option (LB) :=
 if op < 1 then
  some ([] : LB)
 else
  if op > 20 then
   some ([] : LB)
  else
   chk (I64 (op - 1)) <|
   bnd (nth A1 (op - 1)) fun x2 =>
   some x2
def Q3 (l7 : PD → PD → Option Bool) (a : PD) (b : PD) (go5 : Int → Option Bool) (x4 : Int) : Option Bool :=
 if x4 < (a.items.length : Int) then
  bnd (nth a.items x4) fun x6 =>
  bnd (nth b.items x4) fun x7 =>
  bnd (l7 x6 x7) fun x8 =>
  if x8 = true then
   chk (I64 (x4 + 1)) <|
   go5 (x4 + 1)
  else
   some false
 else
  some true
def U1 (l7 : PD → PD → Option Bool) (a : PD) (b : PD) (go : Int → Option Bool) (v : Int) : Option Bool :=
 match v with
 | x4 => Q3 l7 a b go x4
def K0 (l7 : PD → PD → Option Bool) (a : PD) (b : PD) : Option Bool :=
 if a.kind = b.kind then
  if a.number = b.number then
   if a.text = b.text then
    if (a.items.length : Int) = (b.items.length : Int) then
     itr (U1 l7 a b) LF 0
    else
     some false
   else
    some false
  else
   some false
 else
  some false
def l7 : Nat → PD → PD → Option Bool
 | 0, _, _ => none
 | n + 1, a, b => K0 (l7 n) a b
def aP (x_1 : PInstr) : Option Bool :=
 if x_1.op < 1 then
  some false
 else
  if x_1.op > 20 then
   some false
  else
   if x_1.op = 1 then
    if x_1.a = 0 then
     bnd (V0 x_1.d) fun x2 =>
     some x2
    else
     some false
   else
    bnd (l7 RF x_1.d (PD.mk 0 0 ([] : LB) [])) fun x2 =>
    if x2 = true then
     if x_1.a < 0 then
      some false
     else
      if x_1.a > 4000 then
       some false
      else
       if x_1.a = 0 then
        some true
       else
        if x_1.op = 14 then
         some false
        else
         some (!decide (x_1.op = 17))
    else
     some false
def C5 (x_1 : PInstr) : Option (LB) :=
 bnd (aP x_1) fun x2 =>
 if x2 = true then
  if x_1.op = 1 then
   bnd (O9 x_1.op) fun x3 =>
   chk (x3.length + ([32] : LB).length ≤ 9223372036854775807) <|
   bnd (K1 x_1.d) fun x4 =>
   chk ((x3 ++ ([32] : LB)).length + x4.length ≤ 9223372036854775807) <|
   some ((x3 ++ ([32] : LB)) ++ x4)
  else
   if x_1.op = 14 then
    bnd (O9 x_1.op) fun x3 =>
    some x3
   else
    if x_1.op = 17 then
     bnd (O9 x_1.op) fun x3 =>
     some x3
    else
     bnd (O9 x_1.op) fun x3 =>
     chk (x3.length + ([32] : LB).length ≤ 9223372036854775807) <|
     bnd (w6 x_1.a) fun x4 =>
     chk ((x3 ++ ([32] : LB)).length + x4.length ≤ 9223372036854775807) <|
     some ((x3 ++ ([32] : LB)) ++ x4)
 else
  some ([] : LB)
def s7 (go3 : PRdI → Option PRdI) (r6 : PRdI) (go7 : PRdI → Option PRdI) (x8 : Bool) : Option PRdI :=
 if x8 = true then
  chk (I64 (r6.pos + 1)) <|
  go7 (PRdI.mk r6.src (r6.pos + 1) r6.nodes)
 else
  go3 r6
def o3 (go3 : PRdI → Option PRdI) (go7 : PRdI → Option PRdI) (r6 : PRdI) : Option PRdI :=
 if r6.pos < (r6.src.length : Int) then
  bnd (nth r6.src r6.pos) fun x8 =>
  s7 go3 r6 go7 (!decide ((x8.toNat : Int) = 10))
 else
  s7 go3 r6 go7 false
def O5 (go3 : PRdI → Option PRdI) (go : PRdI → Option PRdI) (v : PRdI) : Option PRdI :=
 match v with
 | r6 => o3 go3 go r6
def p8 (r2 : PRdI) (go3 : PRdI → Option PRdI) (x4 : UInt8) (x5 : Bool) : Option PRdI :=
 if x5 = true then
  chk (I64 (r2.pos + 1)) <|
  go3 (PRdI.mk r2.src (r2.pos + 1) r2.nodes)
 else
  if (x4.toNat : Int) = 59 then
   itr (O5 go3) LF r2
  else
   some r2
def l9 (go3 : PRdI → Option PRdI) (r2 : PRdI) : Option PRdI :=
 if r2.pos < (r2.src.length : Int) then
  bnd (nth r2.src r2.pos) fun x4 =>
  if (x4.toNat : Int) = 32 then
   p8 r2 go3 x4 true
  else
   if (x4.toNat : Int) = 10 then
    p8 r2 go3 x4 true
   else
    p8 r2 go3 x4 (decide ((x4.toNat : Int) = 9))
 else
  some r2
def O4 (go : PRdI → Option PRdI) (v : PRdI) : Option PRdI :=
 match v with
 | r2 => l9 go r2
def C7 (r : PRdI) : Option PRdI :=
 itr O4 LF r
def aO (b : Int) : Option Bool :=
 if b = 32 then
  some true
 else
  if b = 10 then
   some true
  else
   if b = 9 then
    some true
   else
    if b = 40 then
     some true
    else
     if b = 41 then
      some true
     else
      if b = 34 then
       some true
      else
       if b = 59 then
        some true
       else
        if b = 39 then
         some true
        else
         some false
def G1 (s : LB) : Option (Int × Bool) :=
 if (s.length : Int) = 0 then
  some (0, false)
 else
  if (s.length : Int) > 10 then
   some (0, false)
  else
   bnd (x_Atoi s) fun x2 =>
   if x2.2 = true then
    some (0, false)
   else
    if x2.1 < (-999999999) then
     some (0, false)
    else
     if x2.1 > 999999999 then
      some (0, false)
     else
      bnd (w6 x2.1) fun x3 =>
      if x3 = s then
       some (x2.1, true)
      else
       some (0, false)
def bV (s : LB) : Option (PD × Bool) :=
 bnd (G1 s) fun x2 =>
 if x2.2 = true then
  some ((PD.mk 2 x2.1 ([] : LB) []), true)
 else
  if s = ([35, 116] : LB) then
   some ((PD.mk 3 1 ([] : LB) []), true)
  else
   if s = ([35, 102] : LB) then
    some ((PD.mk 3 0 ([] : LB) []), true)
   else
    bnd (P6 s) fun x3 =>
    if x3 = true then
     some ((PD.mk 1 0 s []), true)
    else
     some ((PD.mk 0 0 ([] : LB) []), false)
def y9 (f9 : PRdI → Option (PD × Bool × PRdI)) (go7 : (PRdI × List PD) → Option (PD × Bool × PRdI)) (r5 : PRdI) (items6 : List PD) : Option (PD × Bool × PRdI) :=
 bnd (C7 r5) fun x8 =>
 if x8.pos ≥ (x8.src.length : Int) then
  some ((PD.mk 0 0 ([] : LB) []), false, x8)
 else
  bnd (nth x8.src x8.pos) fun x9 =>
  if (x9.toNat : Int) = 41 then
   chk (I64 (x8.pos + 1)) <|
   some ((PD.mk 0 0 ([] : LB) items6), true, (PRdI.mk x8.src (x8.pos + 1) x8.nodes))
  else
   bnd (f9 x8) fun x10 =>
   if x10.2.1 = true then
    chk ((items6.length + ([x10.1] : List PD).length) * 56 ≤ 140737488355328) <|
    go7 (x10.2.2, (items6 ++ ([x10.1] : List PD)))
   else
    some ((PD.mk 0 0 ([] : LB) []), false, x10.2.2)
def k8 (f9 : PRdI → Option (PD × Bool × PRdI)) (go : (PRdI × List PD) → Option (PD × Bool × PRdI)) (v : PRdI × List PD) : Option (PD × Bool × PRdI) :=
 match v with
 | (r5, items6) => y9 f9 go r5 items6
def m9 (x3 : PRdI) (go6 : Int → Option (PD × Bool × PRdI)) (i5 : Int) : Option (PD × Bool × PRdI) :=
 if i5 < (x3.src.length : Int) then
  bnd (nth x3.src i5) fun x7 =>
  if (x7.toNat : Int) = 34 then
   chk (I64 (i5 + 1)) <|
   chk (0 ≤ (x3.pos + 1) ∧ (x3.pos + 1) ≤ i5 ∧ i5 ≤ x3.src.length) <|
   chk (0 ≤ (x3.pos + 1) ∧ (x3.pos + 1) ≤ i5 ∧ i5 ≤ x3.src.length) <|
   bnd (E8 ((x3.src.take i5.toNat).drop (x3.pos + 1).toNat)) fun x8 =>
   some ((PD.mk 4 0 ((x3.src.take i5.toNat).drop (x3.pos + 1).toNat) []), x8, (PRdI.mk x3.src (i5 + 1) (x3.nodes + 1)))
  else
   chk (I64 (i5 + 1)) <|
   go6 (i5 + 1)
 else
  some ((PD.mk 0 0 ([] : LB) []), false, (PRdI.mk x3.src x3.pos (x3.nodes + 1)))
def B1 (x3 : PRdI) (go : Int → Option (PD × Bool × PRdI)) (v : Int) : Option (PD × Bool × PRdI) :=
 match v with
 | i5 => m9 x3 go i5
def p9 (x3 : PRdI) (r5 : PRdI) (go6 : PRdI → Option (PD × Bool × PRdI)) (x7 : Bool) : Option (PD × Bool × PRdI) :=
 if x7 = true then
  chk (I64 (r5.pos + 1)) <|
  go6 (PRdI.mk r5.src (r5.pos + 1) r5.nodes)
 else
  chk (0 ≤ x3.pos ∧ x3.pos ≤ r5.pos ∧ r5.pos ≤ r5.src.length) <|
  bnd (bV ((r5.src.take r5.pos.toNat).drop x3.pos.toNat)) fun x8 =>
  some (x8.1, x8.2, r5)
def n5 (x3 : PRdI) (go6 : PRdI → Option (PD × Bool × PRdI)) (r5 : PRdI) : Option (PD × Bool × PRdI) :=
 if r5.pos < (r5.src.length : Int) then
  bnd (nth r5.src r5.pos) fun x7 =>
  bnd (aO (x7.toNat : Int)) fun x8 =>
  p9 x3 r5 go6 (!x8)
 else
  p9 x3 r5 go6 false
def B2 (x3 : PRdI) (go : PRdI → Option (PD × Bool × PRdI)) (v : PRdI) : Option (PD × Bool × PRdI) :=
 match v with
 | r5 => n5 x3 go r5
def g7 (f9 : PRdI → Option (PD × Bool × PRdI)) (r : PRdI) : Option (PD × Bool × PRdI) :=
 bnd (C7 r) fun x3 =>
 chk (I64 (x3.nodes + 1)) <|
 if x3.pos ≥ (x3.src.length : Int) then
  some ((PD.mk 0 0 ([] : LB) []), false, (PRdI.mk x3.src x3.pos (x3.nodes + 1)))
 else
  if (x3.nodes + 1) > 600 then
   some ((PD.mk 0 0 ([] : LB) []), false, (PRdI.mk x3.src x3.pos (x3.nodes + 1)))
  else
   bnd (nth x3.src x3.pos) fun x4 =>
   if (x4.toNat : Int) = 40 then
    chk (I64 (x3.pos + 1)) <|
    itr (k8 f9) LF ((PRdI.mk x3.src (x3.pos + 1) (x3.nodes + 1)), [])
   else
    if (x4.toNat : Int) = 41 then
     some ((PD.mk 0 0 ([] : LB) []), false, (PRdI.mk x3.src x3.pos (x3.nodes + 1)))
    else
     if (x4.toNat : Int) = 39 then
      chk (I64 (x3.pos + 1)) <|
      chk (I64 ((x3.nodes + 1) + 1)) <|
      bnd (f9 (PRdI.mk x3.src (x3.pos + 1) ((x3.nodes + 1) + 1))) fun x5 =>
      if x5.2.1 = true then
       some ((PD.mk 0 0 ([] : LB) ([(PD.mk 1 0 ([113, 117, 111, 116, 101] : LB) []), x5.1] : List PD)), true, x5.2.2)
      else
       some ((PD.mk 0 0 ([] : LB) []), false, x5.2.2)
     else
      if (x4.toNat : Int) = 34 then
       chk (I64 (x3.pos + 1)) <|
       itr (B1 x3) LF (x3.pos + 1)
      else
       itr (B2 x3) LF (PRdI.mk x3.src x3.pos (x3.nodes + 1))
def f9 : Nat → PRdI → Option (PD × Bool × PRdI)
 | 0, _ => none
 | n + 1, r => g7 (f9 n) r
def C4 (list : List PD) (go4 : (Int × Int) → Option Bool) (x2 : Int) (nodes3 : Int) : Option Bool :=
 if x2 < (list.length : Int) then
  bnd (nth list x2) fun x5 =>
  bnd (n8 RF x5 1 nodes3) fun x6 =>
  if x6.1 = true then
   chk (I64 (x2 + 1)) <|
   go4 ((x2 + 1), x6.2)
  else
   some false
 else
  some true
def aN (list : List PD) (go : (Int × Int) → Option Bool) (v : Int × Int) : Option Bool :=
 match v with
 | (x2, nodes3) => C4 list go x2 nodes3
def aM (list : List PD) : Option Bool :=
 itr (aN list) LF (0, 0)
def E7 (source : LB) (go4 : (PRdI × List PD) → Option (List PD × Bool)) (r2 : PRdI) (out3 : List PD) : Option (List PD × Bool) :=
 bnd (C7 r2) fun x5 =>
 if x5.pos ≥ (source.length : Int) then
  bnd (aM out3) fun x6 =>
  if x6 = true then
   some (out3, true)
  else
   some ([], false)
 else
  bnd (f9 RF x5) fun x6 =>
  if x6.2.1 = true then
   chk ((out3.length + ([x6.1] : List PD).length) * 56 ≤ 140737488355328) <|
   go4 (x6.2.2, (out3 ++ ([x6.1] : List PD)))
  else
   some ([], false)
def N0 (source : LB) (go : (PRdI × List PD) → Option (List PD × Bool)) (v : PRdI × List PD) : Option (List PD × Bool) :=
 match v with
 | (r2, out3) => E7 source go r2 out3
def Q5 (source : LB) : Option (List PD × Bool) :=
 if (source.length : Int) > 15000 then
  some ([], false)
 else
  itr (N0 source) LF ((PRdI.mk source 0 0), [])
def D5 (s : LB) (x2 : LB × LB × Bool) (go4 : Int → Option (PInstr × Bool)) (op3 : Int) : Option (PInstr × Bool) :=
 if op3 ≤ 20 then
  bnd (O9 op3) fun x5 =>
  if x5 = x2.1 then
   if op3 = 1 then
    bnd (Q5 x2.2.1) fun x6 =>
    if x6.2 = true then
     if (x6.1.length : Int) = 1 then
      bnd (nth x6.1 0) fun x7 =>
      bnd (C5 (PInstr.mk op3 0 x7)) fun x8 =>
      if x8 = s then
       some ((PInstr.mk op3 0 x7), true)
      else
       some ((PInstr.mk 0 0 (PD.mk 0 0 ([] : LB) [])), false)
     else
      some ((PInstr.mk 0 0 (PD.mk 0 0 ([] : LB) [])), false)
    else
     some ((PInstr.mk 0 0 (PD.mk 0 0 ([] : LB) [])), false)
   else
    bnd (G1 x2.2.1) fun x6 =>
    bnd (C5 (PInstr.mk op3 x6.1 (PD.mk 0 0 ([] : LB) []))) fun x7 =>
    if x7 = s then
     some ((PInstr.mk op3 x6.1 (PD.mk 0 0 ([] : LB) [])), true)
    else
     some ((PInstr.mk 0 0 (PD.mk 0 0 ([] : LB) [])), false)
  else
   chk (I64 (op3 + 1)) <|
   go4 (op3 + 1)
 else
  some ((PInstr.mk 0 0 (PD.mk 0 0 ([] : LB) [])), false)
def K2 (s : LB) (x2 : LB × LB × Bool) (go : Int → Option (PInstr × Bool)) (v : Int) : Option (PInstr × Bool) :=
 match v with
 | op3 => D5 s x2 go op3
def J3 (s : LB) : Option (PInstr × Bool) :=
 bnd (x_Cut s ([32] : LB)) fun x2 =>
 itr (K2 s x2) LF 1
end Go.Abs

namespace Go.Abs
set_option linter.unusedVariables false
def s9 (out2 : LB) (x3 : Int) (go4 : (LB × Int) → Option (LB)) (d5 : Int) : Option (LB) :=
 chk (I64 (48 + d5)) <|
 chk (0 ≤ (48 + d5) ∧ (48 + d5) ≤ 255) <|
 chk (([(UInt8.ofNat (48 + d5).toNat)] : LB).length + out2.length ≤ 9223372036854775807) <|
 chk (I64 x3 ∧ (0 : Int) < 10) <|
 go4 ((([(UInt8.ofNat (48 + d5).toNat)] : LB) ++ out2), (Int.tdiv x3 10))
def z6 (x_1 : Int) (go4 : (LB × Int) → Option (LB)) (out2 : LB) (x3 : Int) : Option (LB) :=
 if x3 = 0 then
  if x_1 < 0 then
   chk (([45] : LB).length + out2.length ≤ 9223372036854775807) <|
   some (([45] : LB) ++ out2)
  else
   some out2
 else
  chk (I64 x3 ∧ (0 : Int) < 10) <|
  if (Int.tmod x3 10) < 0 then
   chk (I64 (-(Int.tmod x3 10))) <|
   s9 out2 x3 go4 (-(Int.tmod x3 10))
  else
   s9 out2 x3 go4 (Int.tmod x3 10)
def M6 (x_1 : Int) (go : (LB × Int) → Option (LB)) (v : LB × Int) : Option (LB) :=
 match v with
 | (out2, x3) => z6 x_1 go out2 x3
def w7 (x_1 : Int) : Option (LB) :=
 if x_1 = 0 then
  some ([48] : LB)
 else
  itr (M6 x_1) LF (([] : LB), x_1)
def J1 (x4 : Int) (go5 : (LB × Int) → Option (LB)) (x6 : LB) (out7 : LB) : Option (LB) :=
 chk (out7.length + x6.length ≤ 9223372036854775807) <|
 chk (I64 (x4 + 1)) <|
 go5 ((out7 ++ x6), (x4 + 1))
def O0 (list : List (LB)) (x_1 : LB) (go5 : (LB × Int) → Option (LB)) (out3 : LB) (x4 : Int) : Option (LB) :=
 if x4 < (list.length : Int) then
  bnd (nth list x4) fun x6 =>
  if x4 > 0 then
   chk (out3.length + x_1.length ≤ 9223372036854775807) <|
   J1 x4 go5 x6 (out3 ++ x_1)
  else
   J1 x4 go5 x6 out3
 else
  some out3
def cV (list : List (LB)) (x_1 : LB) (go : (LB × Int) → Option (LB)) (v : LB × Int) : Option (LB) :=
 match v with
 | (out3, x4) => O0 list x_1 go out3 x4
def eF (list : List (LB)) (x_1 : LB) : Option (LB) :=
 itr (cV list x_1) LF (([] : LB), 0)
def I1 (m8 : PD → Option (LB)) (d : PD) (go5 : (Int × List (LB)) → Option (LB)) (x3 : Int) (parts4 : List (LB)) : Option (LB) :=
 if x3 < (d.items.length : Int) then
  bnd (nth d.items x3) fun x6 =>
  bnd (m8 x6) fun x7 =>
  chk ((parts4.length + ([x7] : List (LB)).length) * 16 ≤ 140737488355328) <|
  chk (I64 (x3 + 1)) <|
  go5 ((x3 + 1), (parts4 ++ ([x7] : List (LB))))
 else
  bnd (eF parts4 ([32] : LB)) fun x6 =>
  chk (([40] : LB).length + x6.length ≤ 9223372036854775807) <|
  chk ((([40] : LB) ++ x6).length + ([41] : LB).length ≤ 9223372036854775807) <|
  some ((([40] : LB) ++ x6) ++ ([41] : LB))
def Y4 (m8 : PD → Option (LB)) (d : PD) (go : (Int × List (LB)) → Option (LB)) (v : Int × List (LB)) : Option (LB) :=
 match v with
 | (x3, parts4) => I1 m8 d go x3 parts4
def N9 (m8 : PD → Option (LB)) (d : PD) : Option (LB) :=
 if d.kind = 1 then
  some d.text
 else
  if d.kind = 2 then
   bnd (w7 d.number) fun x3 =>
   some x3
  else
   if d.kind = 3 then
    bnd (nth ([([35, 102] : LB), ([35, 116] : LB)] : List (LB)) d.number) fun x3 =>
    some x3
   else
    if d.kind = 4 then
     chk (([34] : LB).length + d.text.length ≤ 9223372036854775807) <|
     chk ((([34] : LB) ++ d.text).length + ([34] : LB).length ≤ 9223372036854775807) <|
     some ((([34] : LB) ++ d.text) ++ ([34] : LB))
    else
     itr (Y4 m8 d) LF (0, ([] : List (LB)))
def m8 : Nat → PD → Option (LB)
 | 0, _ => none
 | n + 1, d => N9 (m8 n) d
def V9 (x_1 : Int) (a : Int) (b : Int) : Option Bool :=
 if x_1 ≥ a then
  some (decide (x_1 ≤ b))
 else
  some false
def T6 (op : Int) : Option (LB) :=
 bnd (V9 op 1 20) fun x2 =>
 if x2 = true then
  chk (I64 (op - 1)) <|
  bnd (nth ([([99, 111, 110, 115, 116, 97, 110, 116] : LB), ([112, 114, 105, 109, 105, 116, 105, 118, 101] : LB), ([108, 111, 99, 97, 108] : LB), ([99, 97, 112, 116, 117, 114, 101, 100] : LB), ([114, 101, 97, 100, 45, 108, 111, 99, 97, 108] : LB), ([114, 101, 97, 100, 45, 98, 111, 120] : LB), ([119, 114, 105, 116, 101, 45, 108, 111, 99, 97, 108] : LB), ([119, 114, 105, 116, 101, 45, 98, 111, 120] : LB), ([110, 101, 119, 45, 98, 111, 120] : LB), ([98, 111, 120, 45, 112, 97, 114, 97, 109] : LB), ([99, 108, 111, 115, 117, 114, 101] : LB), ([99, 97, 108, 108] : LB), ([116, 97, 105, 108, 45, 99, 97, 108, 108] : LB), ([114, 101, 116, 117, 114, 110] : LB), ([106, 117, 109, 112] : LB), ([106, 117, 109, 112, 45, 105, 102, 45, 102, 97, 108, 115, 101] : LB), ([112, 111, 112] : LB), ([114, 101, 115, 101, 116] : LB), ([115, 104, 105, 102, 116] : LB), ([101, 110, 116, 101, 114] : LB)] : List (LB)) (op - 1)) fun x3 =>
  some x3
 else
  some ([] : LB)
def P9 (op : Int) : Option Bool :=
 if op = 14 then
  some true
 else
  some (decide (op = 17))
def M7 (t6 : PD → Int → Option (Bool × Int)) (d : PD) (i4 : Int) (left5 : Int) (go6 : (Int × Int) → Option (Bool × Int)) (x7 : Bool) : Option (Bool × Int) :=
 if x7 = true then
  bnd (nth d.items i4) fun x8 =>
  bnd (t6 x8 left5) fun x9 =>
  chk (I64 (i4 + 1)) <|
  go6 ((i4 + 1), x9.2)
 else
  some ((decide (left5 ≥ 0)), left5)
def J0 (t6 : PD → Int → Option (Bool × Int)) (d : PD) (go6 : (Int × Int) → Option (Bool × Int)) (i4 : Int) (left5 : Int) : Option (Bool × Int) :=
 if i4 < (d.items.length : Int) then
  M7 t6 d i4 left5 go6 (decide (left5 ≥ 0))
 else
  M7 t6 d i4 left5 go6 false
def fK (t6 : PD → Int → Option (Bool × Int)) (d : PD) (go : (Int × Int) → Option (Bool × Int)) (v : Int × Int) : Option (Bool × Int) :=
 match v with
 | (i4, left5) => J0 t6 d go i4 left5
def bJ (t6 : PD → Int → Option (Bool × Int)) (d : PD) (left : Int) : Option (Bool × Int) :=
 chk (I64 (left - 1)) <|
 itr (fK t6 d) LF (0, (left - 1))
def t6 : Nat → PD → Int → Option (Bool × Int)
 | 0, _, _ => none
 | n + 1, d, left => bJ (t6 n) d left
def C8 (o6 : PD → Option Int) (d : PD) (go5 : (Int × Int) → Option Int) (x3 : Int) (x4 : Int) : Option Int :=
 if x4 < (d.items.length : Int) then
  bnd (nth d.items x4) fun x6 =>
  bnd (o6 x6) fun x7 =>
  chk (I64 (x4 + 1)) <|
  go5 ((max x3 x7), (x4 + 1))
 else
  chk (I64 (x3 + 1)) <|
  some (x3 + 1)
def bG (o6 : PD → Option Int) (d : PD) (go : (Int × Int) → Option Int) (v : Int × Int) : Option Int :=
 match v with
 | (x3, x4) => C8 o6 d go x3 x4
def R5 (o6 : PD → Option Int) (d : PD) : Option Int :=
 itr (bG o6 d) LF (0, 0)
def o6 : Nat → PD → Option Int
 | 0, _ => none
 | n + 1, d => R5 (o6 n) d
def K8 (b : Int) : Option Bool :=
 if b ≥ 48 then
  some (decide (b ≤ 57))
 else
  some false
def J4 (b : Int) (go4 : Int → Option Bool) (i3 : Int) : Option Bool :=
 if i3 < (([33, 63, 42, 60, 62, 61, 47, 43, 45, 46, 95] : LB).length : Int) then
  bnd (nth ([33, 63, 42, 60, 62, 61, 47, 43, 45, 46, 95] : LB) i3) fun x5 =>
  if (x5.toNat : Int) = b then
   some true
  else
   chk (I64 (i3 + 1)) <|
   go4 (i3 + 1)
 else
  some false
def cW (b : Int) (go : Int → Option Bool) (v : Int) : Option Bool :=
 match v with
 | i3 => J4 b go i3
def F5 (b : Int) (x2 : Bool) : Option Bool :=
 if x2 = true then
  some true
 else
  itr (cW b) LF 0
def eG (b : Int) : Option Bool :=
 if b ≥ 97 then
  if b ≤ 122 then
   F5 b true
  else
   bnd (K8 b) fun x2 =>
   F5 b x2
 else
  bnd (K8 b) fun x2 =>
  F5 b x2
def A4 (s : LB) (go4 : Int → Option Bool) (i3 : Int) : Option Bool :=
 if i3 < (s.length : Int) then
  bnd (nth s i3) fun x5 =>
  bnd (eG (x5.toNat : Int)) fun x6 =>
  if x6 = true then
   chk (I64 (i3 + 1)) <|
   go4 (i3 + 1)
  else
   some false
 else
  some true
def Y0 (s : LB) (go : Int → Option Bool) (v : Int) : Option Bool :=
 match v with
 | i3 => A4 s go i3
def t8 (s : LB) (x2 : Bool) : Option Bool :=
 if x2 = true then
  some false
 else
  itr (Y0 s) LF 0
def G5 (s : LB) : Option Bool :=
 bnd (V9 (s.length : Int) 1 16) fun x2 =>
 if x2 = true then
  bnd (nth s 0) fun x3 =>
  bnd (K8 (x3.toNat : Int)) fun x4 =>
  if x4 = true then
   t8 s true
  else
   bnd (nth s 0) fun x5 =>
   if (x5.toNat : Int) = 45 then
    if (s.length : Int) > 1 then
     bnd (nth s 1) fun x6 =>
     bnd (K8 (x6.toNat : Int)) fun x7 =>
     t8 s x7
    else
     t8 s false
   else
    t8 s false
 else
  t8 s true
def A7 (s : LB) (go3 : Int → Option Bool) (i2 : Int) : Option Bool :=
 if i2 < (s.length : Int) then
  bnd (nth s i2) fun x4 =>
  if (x4.toNat : Int) < 32 then
   some false
  else
   bnd (nth s i2) fun x5 =>
   if (x5.toNat : Int) > 126 then
    some false
   else
    bnd (nth s i2) fun x6 =>
    if (x6.toNat : Int) = 34 then
     some false
    else
     chk (I64 (i2 + 1)) <|
     go3 (i2 + 1)
 else
  some (decide ((s.length : Int) ≤ 20))
def eJ (s : LB) (go : Int → Option Bool) (v : Int) : Option Bool :=
 match v with
 | i2 => A7 s go i2
def G7 (s : LB) : Option Bool :=
 itr (eJ s) LF 0
def eI (kind : Int) (number : Int) (text : LB) (items : Int) : Option Bool :=
 if kind = 0 then
  if number = 0 then
   some (decide (text = ([] : LB)))
  else
   some false
 else
  if kind = 1 then
   if number = 0 then
    bnd (G5 text) fun x5 =>
    if x5 = true then
     some (decide (items = 0))
    else
     some false
   else
    some false
  else
   if kind = 2 then
    bnd (V9 number (-999999999) 999999999) fun x5 =>
    if x5 = true then
     if text = ([] : LB) then
      some (decide (items = 0))
     else
      some false
    else
     some false
   else
    if kind = 3 then
     bnd (V9 number 0 1) fun x5 =>
     if x5 = true then
      if text = ([] : LB) then
       some (decide (items = 0))
      else
       some false
     else
      some false
    else
     if kind = 4 then
      if number = 0 then
       bnd (G7 text) fun x5 =>
       if x5 = true then
        some (decide (items = 0))
       else
        some false
      else
       some false
     else
      some false
def D3 (o7 : PD → Option Bool) (d : PD) (go4 : Int → Option Bool) (x3 : Int) : Option Bool :=
 if x3 < (d.items.length : Int) then
  bnd (nth d.items x3) fun x5 =>
  bnd (o7 x5) fun x6 =>
  if x6 = true then
   chk (I64 (x3 + 1)) <|
   go4 (x3 + 1)
  else
   some false
 else
  bnd (eI d.kind d.number d.text (d.items.length : Int)) fun x5 =>
  some x5
def bL (o7 : PD → Option Bool) (d : PD) (go : Int → Option Bool) (v : Int) : Option Bool :=
 match v with
 | x3 => D3 o7 d go x3
def R9 (o7 : PD → Option Bool) (d : PD) : Option Bool :=
 itr (bL o7 d) LF 0
def o7 : Nat → PD → Option Bool
 | 0, _ => none
 | n + 1, d => R9 (o7 n) d
def V5 (d : PD) : Option Bool :=
 bnd (t6 RF d 600) fun x2 =>
 if x2.1 = true then
  bnd (o6 RF d) fun x3 =>
  if x3 ≤ 20 then
   bnd (o7 RF d) fun x4 =>
   some x4
  else
   some false
 else
  some false
def R6 (l8 : PD → PD → Option Bool) (a : PD) (b : PD) (go5 : Int → Option Bool) (x4 : Int) : Option Bool :=
 if x4 < (a.items.length : Int) then
  bnd (nth a.items x4) fun x6 =>
  bnd (nth b.items x4) fun x7 =>
  bnd (l8 x6 x7) fun x8 =>
  if x8 = true then
   chk (I64 (x4 + 1)) <|
   go5 (x4 + 1)
  else
   some false
 else
  some true
def U5 (l8 : PD → PD → Option Bool) (a : PD) (b : PD) (go : Int → Option Bool) (v : Int) : Option Bool :=
 match v with
 | x4 => R6 l8 a b go x4
def K6 (l8 : PD → PD → Option Bool) (a : PD) (b : PD) : Option Bool :=
 if a.kind = b.kind then
  if a.number = b.number then
   if a.text = b.text then
    if (a.items.length : Int) = (b.items.length : Int) then
     itr (U5 l8 a b) LF 0
    else
     some false
   else
    some false
  else
   some false
 else
  some false
def l8 : Nat → PD → PD → Option Bool
 | 0, _, _ => none
 | n + 1, a, b => K6 (l8 n) a b
def V6 (x_1 : PInstr) : Option Bool :=
 bnd (V9 x_1.op 1 20) fun x2 =>
 if x2 = true then
  if x_1.op = 1 then
   if x_1.a = 0 then
    bnd (V5 x_1.d) fun x3 =>
    some x3
   else
    some false
  else
   bnd (l8 RF x_1.d (PD.mk 0 0 ([] : LB) [])) fun x3 =>
   if x3 = true then
    bnd (V9 x_1.a 0 4000) fun x4 =>
    if x4 = true then
     if x_1.a = 0 then
      some true
     else
      bnd (P9 x_1.op) fun x5 =>
      some (!x5)
    else
     some false
   else
    some false
 else
  some false
def C9 (x_1 : PInstr) : Option (LB) :=
 bnd (V6 x_1) fun x2 =>
 if x2 = true then
  if x_1.op = 1 then
   bnd (T6 x_1.op) fun x3 =>
   chk (x3.length + ([32] : LB).length ≤ 9223372036854775807) <|
   bnd (m8 RF x_1.d) fun x4 =>
   chk ((x3 ++ ([32] : LB)).length + x4.length ≤ 9223372036854775807) <|
   some ((x3 ++ ([32] : LB)) ++ x4)
  else
   bnd (P9 x_1.op) fun x3 =>
   if x3 = true then
    bnd (T6 x_1.op) fun x4 =>
    some x4
   else
    bnd (T6 x_1.op) fun x4 =>
    chk (x4.length + ([32] : LB).length ≤ 9223372036854775807) <|
    bnd (w7 x_1.a) fun x5 =>
    chk ((x4 ++ ([32] : LB)).length + x5.length ≤ 9223372036854775807) <|
    some ((x4 ++ ([32] : LB)) ++ x5)
 else
  some ([] : LB)
def u3 (s : LB) (go3 : Int → Option (LB × LB)) (i2 : Int) : Option (LB × LB) :=
 if i2 < (s.length : Int) then
  bnd (nth s i2) fun x4 =>
  if (x4.toNat : Int) = 32 then
   chk (0 ≤ i2 ∧ i2 ≤ s.length) <|
   chk (I64 (i2 + 1)) <|
   chk (0 ≤ (i2 + 1) ∧ (i2 + 1) ≤ s.length) <|
   some ((s.take i2.toNat), (s.drop (i2 + 1).toNat))
  else
   chk (I64 (i2 + 1)) <|
   go3 (i2 + 1)
 else
  some (s, ([] : LB))
def Y3 (s : LB) (go : Int → Option (LB × LB)) (v : Int) : Option (LB × LB) :=
 match v with
 | i2 => u3 s go i2
def V7 (s : LB) : Option (LB × LB) :=
 itr (Y3 s) LF 0
def V8 (b : Int) : Option Bool :=
 if b = 32 then
  some true
 else
  if b = 10 then
   some true
  else
   some (decide (b = 9))
def F7 (go3 : PRdS → Option PRdS) (r6 : PRdS) (go7 : PRdS → Option PRdS) (x8 : Bool) : Option PRdS :=
 if x8 = true then
  chk (I64 (r6.pos + 1)) <|
  go7 (PRdS.mk r6.src (r6.pos + 1) r6.bad)
 else
  go3 r6
def A0 (go3 : PRdS → Option PRdS) (go7 : PRdS → Option PRdS) (r6 : PRdS) : Option PRdS :=
 if r6.pos < (r6.src.length : Int) then
  bnd (nth r6.src r6.pos) fun x8 =>
  F7 go3 r6 go7 (!decide ((x8.toNat : Int) = 10))
 else
  F7 go3 r6 go7 false
def cZ (go3 : PRdS → Option PRdS) (go : PRdS → Option PRdS) (v : PRdS) : Option PRdS :=
 match v with
 | r6 => A0 go3 go r6
def y6 (r2 : PRdS) (go3 : PRdS → Option PRdS) (x4 : Bool) : Option PRdS :=
 if x4 = true then
  bnd (nth r2.src r2.pos) fun x5 =>
  if (x5.toNat : Int) = 59 then
   itr (cZ go3) LF r2
  else
   chk (I64 (r2.pos + 1)) <|
   go3 (PRdS.mk r2.src (r2.pos + 1) r2.bad)
 else
  some r2
def r8 (go3 : PRdS → Option PRdS) (r2 : PRdS) : Option PRdS :=
 if r2.pos < (r2.src.length : Int) then
  bnd (nth r2.src r2.pos) fun x4 =>
  bnd (V8 (x4.toNat : Int)) fun x5 =>
  if x5 = true then
   y6 r2 go3 true
  else
   bnd (nth r2.src r2.pos) fun x6 =>
   y6 r2 go3 (decide ((x6.toNat : Int) = 59))
 else
  y6 r2 go3 false
def cY (go : PRdS → Option PRdS) (v : PRdS) : Option PRdS :=
 match v with
 | r2 => r8 go r2
def G6 (r : PRdS) : Option PRdS :=
 itr cY LF r
def D1 (s : LB) : Option PD :=
 bnd (G5 s) fun x2 =>
 if x2 = true then
  some (PD.mk 1 0 s [])
 else
  some (PD.mk 0 0 ([] : LB) [])
def P5 (s : LB) : Option PD :=
 bnd (G7 s) fun x2 =>
 if x2 = true then
  some (PD.mk 4 0 s [])
 else
  some (PD.mk 0 0 ([] : LB) [])
def B6 (s : LB) (x3 : Int) (go6 : (Int × Int) → Option (Int × Bool)) (x4 : Int) (i5 : Int) : Option (Int × Bool) :=
 if i5 < (s.length : Int) then
  bnd (nth s i5) fun x7 =>
  bnd (K8 (x7.toNat : Int)) fun x8 =>
  if x8 = true then
   chk (I64 (10 * x4)) <|
   bnd (nth s i5) fun x9 =>
   chk (0 ≤ ((x9.toNat : Int) - 48) ∧ ((x9.toNat : Int) - 48) ≤ 255) <|
   chk (I64 ((x9.toNat : Int) - 48)) <|
   chk (I64 ((10 * x4) + ((x9.toNat : Int) - 48))) <|
   chk (I64 (i5 + 1)) <|
   go6 (((10 * x4) + ((x9.toNat : Int) - 48)), (i5 + 1))
  else
   some (0, false)
 else
  if x3 = 1 then
   chk (I64 (-x4)) <|
   bnd (w7 (-x4)) fun x7 =>
   if x7 = s then
    some ((-x4), true)
   else
    some (0, false)
  else
   bnd (w7 x4) fun x7 =>
   if x7 = s then
    some (x4, true)
   else
    some (0, false)
def I6 (s : LB) (x3 : Int) (go : (Int × Int) → Option (Int × Bool)) (v : Int × Int) : Option (Int × Bool) :=
 match v with
 | (x4, i5) => B6 s x3 go x4 i5
def s8 (s : LB) (x3 : Int) : Option (Int × Bool) :=
 if x3 = (s.length : Int) then
  some (0, false)
 else
  chk (I64 ((s.length : Int) - x3)) <|
  if ((s.length : Int) - x3) > 9 then
   some (0, false)
  else
   itr (I6 s x3) LF (0, x3)
def v6 (s : LB) (x2 : Bool) : Option (Int × Bool) :=
 if x2 = true then
  s8 s 1
 else
  s8 s 0
def D0 (s : LB) : Option (Int × Bool) :=
 if (s.length : Int) > 0 then
  bnd (nth s 0) fun x2 =>
  v6 s (decide ((x2.toNat : Int) = 45))
 else
  v6 s false
def eC (b : Int) : Option Bool :=
 if b = 40 then
  some true
 else
  if b = 41 then
   some true
  else
   if b = 34 then
    some true
   else
    if b = 59 then
     some true
    else
     some (decide (b = 39))
def P4 (x_1 : Int) : Option PD :=
 bnd (V9 x_1 (-999999999) 999999999) fun x2 =>
 if x2 = true then
  some (PD.mk 2 x_1 ([] : LB) [])
 else
  some (PD.mk 0 0 ([] : LB) [])
def E3 (b : Bool) : Option PD :=
 if b = true then
  some (PD.mk 3 1 ([] : LB) [])
 else
  some (PD.mk 3 0 ([] : LB) [])
def D2 (r : PRdS) (r2 : PRdS) (go3 : PRdS → Option (PD × PRdS)) (x4 : Bool) : Option (PD × PRdS) :=
 if x4 = true then
  chk (I64 (r2.pos + 1)) <|
  go3 (PRdS.mk r2.src (r2.pos + 1) r2.bad)
 else
  chk (0 ≤ r.pos ∧ r.pos ≤ r2.pos ∧ r2.pos ≤ r2.src.length) <|
  bnd (D0 ((r2.src.take r2.pos.toNat).drop r.pos.toNat)) fun x5 =>
  if x5.2 = true then
   bnd (P4 x5.1) fun x6 =>
   some (x6, r2)
  else
   if ((r2.src.take r2.pos.toNat).drop r.pos.toNat) = ([35, 116] : LB) then
    bnd (E3 (decide (((r2.src.take r2.pos.toNat).drop r.pos.toNat) = ([35, 116] : LB)))) fun x6 =>
    some (x6, r2)
   else
    if ((r2.src.take r2.pos.toNat).drop r.pos.toNat) = ([35, 102] : LB) then
     bnd (E3 (decide (((r2.src.take r2.pos.toNat).drop r.pos.toNat) = ([35, 116] : LB)))) fun x6 =>
     some (x6, r2)
    else
     bnd (G5 ((r2.src.take r2.pos.toNat).drop r.pos.toNat)) fun x6 =>
     if x6 = true then
      bnd (D1 ((r2.src.take r2.pos.toNat).drop r.pos.toNat)) fun x7 =>
      some (x7, r2)
     else
      some ((PD.mk 0 0 ([] : LB) []), (PRdS.mk r2.src r2.pos true))
def z7 (r : PRdS) (go3 : PRdS → Option (PD × PRdS)) (r2 : PRdS) : Option (PD × PRdS) :=
 if r2.pos < (r2.src.length : Int) then
  bnd (nth r2.src r2.pos) fun x4 =>
  bnd (V8 (x4.toNat : Int)) fun x5 =>
  if x5 = true then
   D2 r r2 go3 false
  else
   bnd (nth r2.src r2.pos) fun x6 =>
   bnd (eC (x6.toNat : Int)) fun x7 =>
   D2 r r2 go3 (!x7)
 else
  D2 r r2 go3 false
def cU (r : PRdS) (go : PRdS → Option (PD × PRdS)) (v : PRdS) : Option (PD × PRdS) :=
 match v with
 | r2 => z7 r go r2
def eB (r : PRdS) : Option (PD × PRdS) :=
 itr (cU r) LF r
def F6 (x3 : PRdS) (r6 : PRdS) (go7 : PRdS → Option (PD × PRdS)) (x8 : Bool) : Option (PD × PRdS) :=
 if x8 = true then
  chk (I64 (r6.pos + 1)) <|
  go7 (PRdS.mk r6.src (r6.pos + 1) r6.bad)
 else
  if r6.pos ≥ (r6.src.length : Int) then
   some ((PD.mk 0 0 ([] : LB) []), (PRdS.mk r6.src r6.pos true))
  else
   chk (0 ≤ (x3.pos + 1) ∧ (x3.pos + 1) ≤ r6.pos ∧ r6.pos ≤ r6.src.length) <|
   bnd (G7 ((r6.src.take r6.pos.toNat).drop (x3.pos + 1).toNat)) fun x9 =>
   if x9 = true then
    chk (I64 (r6.pos + 1)) <|
    chk (I64 ((r6.pos + 1) - 1)) <|
    chk (0 ≤ (x3.pos + 1) ∧ (x3.pos + 1) ≤ ((r6.pos + 1) - 1) ∧ ((r6.pos + 1) - 1) ≤ r6.src.length) <|
    bnd (P5 ((r6.src.take ((r6.pos + 1) - 1).toNat).drop (x3.pos + 1).toNat)) fun x10 =>
    some (x10, (PRdS.mk r6.src (r6.pos + 1) r6.bad))
   else
    some ((PD.mk 0 0 ([] : LB) []), (PRdS.mk r6.src r6.pos true))
def z8 (x3 : PRdS) (go7 : PRdS → Option (PD × PRdS)) (r6 : PRdS) : Option (PD × PRdS) :=
 if r6.pos < (r6.src.length : Int) then
  bnd (nth r6.src r6.pos) fun x8 =>
  F6 x3 r6 go7 (!decide ((x8.toNat : Int) = 34))
 else
  F6 x3 r6 go7 false
def Y5 (x3 : PRdS) (go : PRdS → Option (PD × PRdS)) (v : PRdS) : Option (PD × PRdS) :=
 match v with
 | r6 => z8 x3 go r6
def v7 (n7 : PRdS → Option (PD × PRdS)) (r7 : PRdS) (x8 : List PD) (go9 : (PRdS × List PD) → Option (PD × PRdS)) (x10 : Bool) : Option (PD × PRdS) :=
 if x10 = true then
  bnd (n7 r7) fun x11 =>
  chk ((x8.length + ([x11.1] : List PD).length) * 56 ≤ 140737488355328) <|
  bnd (G6 x11.2) fun x12 =>
  go9 (x12, (x8 ++ ([x11.1] : List PD)))
 else
  if r7.bad = true then
   chk (I64 (r7.pos + 1)) <|
   some ((PD.mk 0 0 ([] : LB) x8), (PRdS.mk r7.src (r7.pos + 1) true))
  else
   chk (I64 (r7.pos + 1)) <|
   some ((PD.mk 0 0 ([] : LB) x8), (PRdS.mk r7.src (r7.pos + 1) (decide (r7.pos ≥ (r7.src.length : Int)))))
def B9 (n7 : PRdS → Option (PD × PRdS)) (go9 : (PRdS × List PD) → Option (PD × PRdS)) (r7 : PRdS) (x8 : List PD) : Option (PD × PRdS) :=
 if r7.bad = true then
  v7 n7 r7 x8 go9 false
 else
  if r7.pos < (r7.src.length : Int) then
   bnd (nth r7.src r7.pos) fun x10 =>
   v7 n7 r7 x8 go9 (!decide ((x10.toNat : Int) = 41))
  else
   v7 n7 r7 x8 go9 false
def A6 (n7 : PRdS → Option (PD × PRdS)) (go : (PRdS × List PD) → Option (PD × PRdS)) (v : PRdS × List PD) : Option (PD × PRdS) :=
 match v with
 | (r7, x8) => B9 n7 go r7 x8
def W0 (n7 : PRdS → Option (PD × PRdS)) (r : PRdS) : Option (PD × PRdS) :=
 bnd (G6 r) fun x3 =>
 if x3.bad = true then
  some ((PD.mk 0 0 ([] : LB) []), (PRdS.mk x3.src x3.pos true))
 else
  if x3.pos ≥ (x3.src.length : Int) then
   some ((PD.mk 0 0 ([] : LB) []), (PRdS.mk x3.src x3.pos true))
  else
   bnd (nth x3.src x3.pos) fun x4 =>
   if (x4.toNat : Int) = 41 then
    some ((PD.mk 0 0 ([] : LB) []), (PRdS.mk x3.src x3.pos true))
   else
    bnd (nth x3.src x3.pos) fun x5 =>
    if (x5.toNat : Int) = 39 then
     chk (I64 (x3.pos + 1)) <|
     bnd (D1 ([113, 117, 111, 116, 101] : LB)) fun x6 =>
     bnd (n7 (PRdS.mk x3.src (x3.pos + 1) x3.bad)) fun x7 =>
     some ((PD.mk 0 0 ([] : LB) ([x6, x7.1] : List PD)), x7.2)
    else
     if (x5.toNat : Int) = 34 then
      chk (I64 (x3.pos + 1)) <|
      itr (Y5 x3) LF (PRdS.mk x3.src (x3.pos + 1) x3.bad)
     else
      if (x5.toNat : Int) = 40 then
       chk (I64 (x3.pos + 1)) <|
       bnd (G6 (PRdS.mk x3.src (x3.pos + 1) x3.bad)) fun x6 =>
       itr (A6 n7) LF (x6, [])
      else
       bnd (eB x3) fun x6 =>
       some (x6.1, x6.2)
def n7 : Nat → PRdS → Option (PD × PRdS)
 | 0, _ => none
 | n + 1, r => W0 (n7 n) r
def D7 (l0 : PD → Option Int) (d : PD) (go5 : (Int × Int) → Option Int) (x3 : Int) (x4 : Int) : Option Int :=
 if x4 < (d.items.length : Int) then
  bnd (nth d.items x4) fun x6 =>
  bnd (l0 x6) fun x7 =>
  chk (I64 (x3 + x7)) <|
  chk (I64 (x4 + 1)) <|
  go5 ((x3 + x7), (x4 + 1))
 else
  some x3
def R4 (l0 : PD → Option Int) (d : PD) (go : (Int × Int) → Option Int) (v : Int × Int) : Option Int :=
 match v with
 | (x3, x4) => D7 l0 d go x3 x4
def I0 (l0 : PD → Option Int) (d : PD) : Option Int :=
 itr (R4 l0 d) LF (1, 0)
def l0 : Nat → PD → Option Int
 | 0, _ => none
 | n + 1, d => I0 (l0 n) d
def K5 (list : List PD) (go4 : (Int × Int) → Option Bool) (x2 : Int) (x3 : Int) : Option Bool :=
 if x3 < (list.length : Int) then
  bnd (nth list x3) fun x5 =>
  bnd (V5 x5) fun x6 =>
  if x6 = true then
   bnd (l0 RF x5) fun x7 =>
   chk (I64 (x2 + x7)) <|
   chk (I64 (x3 + 1)) <|
   go4 ((x2 + x7), (x3 + 1))
  else
   some false
 else
  some (decide (x2 ≤ 600))
def bE (list : List PD) (go : (Int × Int) → Option Bool) (v : Int × Int) : Option Bool :=
 match v with
 | (x2, x3) => K5 list go x2 x3
def bD (list : List PD) : Option Bool :=
 itr (bE list) LF (0, 0)
def A5 (r3 : PRdS) (out4 : List PD) (go5 : (PRdS × List PD) → Option (List PD × Bool)) (x6 : Bool) : Option (List PD × Bool) :=
 if x6 = true then
  bnd (n7 RF r3) fun x7 =>
  chk ((out4.length + ([x7.1] : List PD).length) * 56 ≤ 140737488355328) <|
  bnd (G6 x7.2) fun x8 =>
  go5 (x8, (out4 ++ ([x7.1] : List PD)))
 else
  if r3.bad = true then
   some ([], false)
  else
   bnd (bD out4) fun x7 =>
   if x7 = true then
    some (out4, true)
   else
    some ([], false)
def y5 (go5 : (PRdS × List PD) → Option (List PD × Bool)) (r3 : PRdS) (out4 : List PD) : Option (List PD × Bool) :=
 if r3.bad = true then
  A5 r3 out4 go5 false
 else
  A5 r3 out4 go5 (decide (r3.pos < (r3.src.length : Int)))
def w8 (go : (PRdS × List PD) → Option (List PD × Bool)) (v : PRdS × List PD) : Option (List PD × Bool) :=
 match v with
 | (r3, out4) => y5 go r3 out4
def R7 (source : LB) : Option (List PD × Bool) :=
 if (source.length : Int) > 15000 then
  some ([], false)
 else
  bnd (G6 (PRdS.mk source 0 false)) fun x2 =>
  itr w8 LF (x2, ([] : List PD))
def D8 (s : LB) (x2 : LB × LB) (go4 : Int → Option (PInstr × Bool)) (op3 : Int) : Option (PInstr × Bool) :=
 if op3 ≤ 20 then
  bnd (T6 op3) fun x5 =>
  if x5 = x2.1 then
   if op3 = 1 then
    bnd (R7 x2.2) fun x6 =>
    if (x6.1.length : Int) = 1 then
     bnd (nth x6.1 0) fun x7 =>
     bnd (C9 (PInstr.mk op3 0 x7)) fun x8 =>
     if x8 = s then
      some ((PInstr.mk op3 0 x7), true)
     else
      some ((PInstr.mk 0 0 (PD.mk 0 0 ([] : LB) [])), false)
    else
     some ((PInstr.mk 0 0 (PD.mk 0 0 ([] : LB) [])), false)
   else
    bnd (D0 x2.2) fun x6 =>
    bnd (C9 (PInstr.mk op3 x6.1 (PD.mk 0 0 ([] : LB) []))) fun x7 =>
    if x7 = s then
     some ((PInstr.mk op3 x6.1 (PD.mk 0 0 ([] : LB) [])), true)
    else
     some ((PInstr.mk 0 0 (PD.mk 0 0 ([] : LB) [])), false)
  else
   chk (I64 (op3 + 1)) <|
   go4 (op3 + 1)
 else
  some ((PInstr.mk 0 0 (PD.mk 0 0 ([] : LB) [])), false)
def K7 (s : LB) (x2 : LB × LB) (go : Int → Option (PInstr × Bool)) (v : Int) : Option (PInstr × Bool) :=
 match v with
 | op3 => D8 s x2 go op3
def N6 (s : LB) : Option (PInstr × Bool) :=
 bnd (V7 s) fun x2 =>
 itr (K7 s x2) LF 1
end Go.Abs

namespace Go.Abs
set_option linter.unusedVariables false
def S7 (l4 : PD → PD → Option Bool) (o4 : List PD → List PD → Option Bool) (a : PD) (b : PD) : Option Bool :=
 if a.kind = b.kind then
  if a.number = b.number then
   if a.text = b.text then
    bnd (o4 a.items b.items) fun x5 =>
    if x5 = true then
     some true
    else
     some false
   else
    some false
  else
   some false
 else
  some false
def U6 (l4 : PD → PD → Option Bool) (a : List PD) (b : List PD) (go6 : Int → Option Bool) (i5 : Int) : Option Bool :=
 if i5 < (a.length : Int) then
  bnd (nth a i5) fun x7 =>
  bnd (nth b i5) fun x8 =>
  bnd (l4 x7 x8) fun x9 =>
  if x9 = true then
   chk (I64 (i5 + 1)) <|
   go6 (i5 + 1)
  else
   some false
 else
  some true
def Z1 (l4 : PD → PD → Option Bool) (a : List PD) (b : List PD) (go : Int → Option Bool) (v : Int) : Option Bool :=
 match v with
 | i5 => U6 l4 a b go i5
def O1 (l4 : PD → PD → Option Bool) (o4 : List PD → List PD → Option Bool) (a : List PD) (b : List PD) : Option Bool :=
 if (a.length : Int) = (b.length : Int) then
  itr (Z1 l4 a b) LF 0
 else
  some false
mutual
def l4 : Nat → PD → PD → Option Bool
 | 0, _, _ => none
 | n + 1, a, b => S7 (l4 n) (o4 n) a b
def o4 : Nat → List PD → List PD → Option Bool
 | 0, _, _ => none
 | n + 1, a, b => O1 (l4 n) (o4 n) a b
end
def W5 (a : PInstr) (b : PInstr) : Option Bool :=
 if a.op = b.op then
  if a.a = b.a then
   bnd (l4 RF a.d b.d) fun x3 =>
   if x3 = true then
    some true
   else
    some false
  else
   some false
 else
  some false
def I3 (go4 : (Int × LB) → Option (LB)) (k2 : Int) (out3 : LB) : Option (LB) :=
 if k2 > 0 then
  chk (0 ≤ k2 ∧ k2 ≤ 9223372036854775807 ∧ (0 : Int) < 10) <|
  chk (I64 (48 + (k2 % 10))) <|
  chk (0 ≤ (48 + (k2 % 10)) ∧ (48 + (k2 % 10)) ≤ 255) <|
  chk (([(UInt8.ofNat (48 + (k2 % 10)).toNat)] : LB).length + out3.length ≤ 9223372036854775807) <|
  chk (0 ≤ k2 ∧ k2 ≤ 9223372036854775807 ∧ (0 : Int) < 10) <|
  go4 ((k2 / 10), (([(UInt8.ofNat (48 + (k2 % 10)).toNat)] : LB) ++ out3))
 else
  chk (([109] : LB).length + out3.length ≤ 9223372036854775807) <|
  some (([109] : LB) ++ out3)
def Z4 (go : (Int × LB) → Option (LB)) (v : Int × LB) : Option (LB) :=
 match v with
 | (k2, out3) => I3 go k2 out3
def J5 (k : Int) : Option (LB) :=
 if k ≤ 0 then
  some ([109, 48] : LB)
 else
  itr Z4 LF (k, ([] : LB))
def m6 (j5 : List PD → Int → Option (Int × List PD)) (go7 : (Int × Int × List PD) → Option (Int × List PD)) (k4 : Int) (i5 : Int) (a6 : List PD) : Option (Int × List PD) :=
 if i5 < (a6.length : Int) then
  bnd (nth a6 i5) fun x8 =>
  chk (I64 (k4 + 1)) <|
  bnd (nth (a6.set i5.toNat (PD.mk k4 x8.number x8.text x8.items)) i5) fun x9 =>
  chk (I64 ((k4 + 1) + 1)) <|
  bnd (J5 ((k4 + 1) + 1)) fun x10 =>
  bnd (nth ((a6.set i5.toNat (PD.mk k4 x8.number x8.text x8.items)).set i5.toNat (PD.mk x9.kind (k4 + 1) x9.text x9.items)) i5) fun x11 =>
  chk (I64 (((k4 + 1) + 1) + 1)) <|
  bnd (nth (((a6.set i5.toNat (PD.mk k4 x8.number x8.text x8.items)).set i5.toNat (PD.mk x9.kind (k4 + 1) x9.text x9.items)).set i5.toNat (PD.mk x11.kind x11.number x10 x11.items)) i5) fun x12 =>
  bnd (j5 x12.items (((k4 + 1) + 1) + 1)) fun x13 =>
  chk (x13.2.length = x12.items.length) <|
  chk (I64 (i5 + 1)) <|
  go7 (x13.1, (i5 + 1), ((((a6.set i5.toNat (PD.mk k4 x8.number x8.text x8.items)).set i5.toNat (PD.mk x9.kind (k4 + 1) x9.text x9.items)).set i5.toNat (PD.mk x11.kind x11.number x10 x11.items)).set i5.toNat (PD.mk x12.kind x12.number x12.text x13.2)))
 else
  some (k4, a6)
def L3 (j5 : List PD → Int → Option (Int × List PD)) (go : (Int × Int × List PD) → Option (Int × List PD)) (v : Int × Int × List PD) : Option (Int × List PD) :=
 match v with
 | (k4, i5, a6) => m6 j5 go k4 i5 a6
def A8 (j5 : List PD → Int → Option (Int × List PD)) (a : List PD) (k : Int) : Option (Int × List PD) :=
 itr (L3 j5) LF (k, 0, a)
def j5 : Nat → List PD → Int → Option (Int × List PD)
 | 0, _, _ => none
 | n + 1, a, k => A8 (j5 n) a k
def Z3 (a : PD) (k : Int) : Option (Int × List PD) :=
 bnd (j5 RF a.items k) fun x3 =>
 chk (x3.2.length = a.items.length) <|
 some (x3.1, x3.2)
def S9 (a : PInstr) (k : Int) : Option (Int × List PD) :=
 bnd (Z3 a.d k) fun x3 =>
 chk (x3.2.length = a.d.items.length) <|
 some (x3.1, x3.2)
def v8 (k7 : List PD → Int → Option Int) (a : List PD) (go6 : (Int × Int) → Option Int) (k4 : Int) (i5 : Int) : Option Int :=
 if i5 < (a.length : Int) then
  bnd (nth a i5) fun x7 =>
  if x7.kind = k4 then
   chk (I64 (k4 + 1)) <|
   bnd (nth a i5) fun x8 =>
   if x8.number = (k4 + 1) then
    chk (I64 ((k4 + 1) + 1)) <|
    bnd (nth a i5) fun x9 =>
    bnd (J5 ((k4 + 1) + 1)) fun x10 =>
    if x9.text = x10 then
     chk (I64 (((k4 + 1) + 1) + 1)) <|
     bnd (nth a i5) fun x11 =>
     bnd (k7 x11.items (((k4 + 1) + 1) + 1)) fun x12 =>
     if x12 < 0 then
      some (-1)
     else
      chk (I64 (i5 + 1)) <|
      go6 (x12, (i5 + 1))
    else
     some (-1)
   else
    some (-1)
  else
   some (-1)
 else
  some k4
def S8 (k7 : List PD → Int → Option Int) (a : List PD) (go : (Int × Int) → Option Int) (v : Int × Int) : Option Int :=
 match v with
 | (k4, i5) => v8 k7 a go k4 i5
def I2 (k7 : List PD → Int → Option Int) (a : List PD) (k : Int) : Option Int :=
 itr (S8 k7 a) LF (k, 0)
def k7 : Nat → List PD → Int → Option Int
 | 0, _, _ => none
 | n + 1, a, k => I2 (k7 n) a k
def Z2 (a : PD) (k : Int) : Option Int :=
 bnd (k7 RF a.items k) fun x3 =>
 if x3 < 0 then
  some (-1)
 else
  some x3
def M9 (a : PInstr) (k : Int) : Option Int :=
 bnd (Z2 a.d k) fun x3 =>
 if x3 < 0 then
  some (-1)
 else
  some x3
def D4 (aS : LB) : Option Bool :=
 if (aS.length : Int) > 1048576 then
  some true
 else
  bnd (N6 aS) fun x2 =>
  bnd (J3 aS) fun x3 =>
  bnd (W5 x3.1 x2.1) fun x4 =>
  if x4 = true then
   if x3.2 = x2.2 then
    bnd (S9 x3.1 1) fun x5 =>
    chk (x5.2.length = x3.1.d.items.length) <|
    bnd (M9 (PInstr.mk x3.1.op x3.1.a (PD.mk x3.1.d.kind x3.1.d.number x3.1.d.text x5.2)) 1) fun x6 =>
    if x6 < 0 then
     some false
    else
     if x6 = x5.1 then
      bnd (J3 aS) fun x7 =>
      bnd (W5 x7.1 x2.1) fun x8 =>
      if x8 = true then
       if x7.2 = x2.2 then
        bnd (M9 (PInstr.mk x3.1.op x3.1.a (PD.mk x3.1.d.kind x3.1.d.number x3.1.d.text x5.2)) 1) fun x9 =>
        if x9 < 0 then
         some false
        else
         if x9 = x5.1 then
          some true
         else
          some false
       else
        some false
      else
       some false
     else
      some false
   else
    some false
  else
   some false
end Go.Abs
