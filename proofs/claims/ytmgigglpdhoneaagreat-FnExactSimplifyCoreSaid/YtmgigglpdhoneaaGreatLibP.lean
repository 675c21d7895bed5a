
import Derived.Test.YtmgigglpdhoneaaGreatLibD
import Derived.Test.YtmgigglpdhoneaaGreatLibE
set_option linter.unusedVariables false
set_option linter.unusedSimpArgs false
namespace Go.Abs
set_option linter.unusedVariables false
def C8 (list : LI) (x_1 : Int) (x4 : MI) : Option (LI × (Option (MI))) :=
 if (mget x4 x_1) = 0 then
  chk ((list.length + ([x_1] : LI).length) * 8 ≤ 140737488355328) <|
  some ((list ++ ([x_1] : LI)), (some (mput x4 x_1 1)))
 else
  some (list, (some x4))
def C7 (list : LI) (seen : Option (MI)) (x_1 : Int) : Option (LI × (Option (MI))) :=
 if seen = none then
  C8 list x_1 ([] : MI)
 else
  bnd (seen) fun x4 =>
  C8 list x_1 x4
def R9 (c : PC) (x14 : LI) (x15 : Option (MI)) (go19 : (Int × (MI)) → Option ((MI) × LI × (Option (MI)))) (x17 : Int) (bound18 : MI) : Option ((MI) × LI × (Option (MI))) :=
 if x17 < (c.params.length : Int) then
  bnd (nth c.params x17) fun x20 =>
  chk (I64 ((mget bound18 x20) - 1)) <|
  chk (I64 (x17 + 1)) <|
  go19 ((x17 + 1), (mput bound18 x20 ((mget bound18 x20) - 1)))
 else
  some (bound18, x14, x15)
def iY (c : PC) (x14 : LI) (x15 : Option (MI)) (go : (Int × (MI)) → Option ((MI) × LI × (Option (MI)))) (v : Int × (MI)) : Option ((MI) × LI × (Option (MI))) :=
 match v with
 | (x17, bound18) => R9 c x14 x15 go x17 bound18
def R8 (q9 : PC → MI → LI → Option (MI) → Option ((MI) × LI × (Option (MI)))) (c : PC) (go16 : (Int × (MI) × LI × (Option (MI))) → Option ((MI) × LI × (Option (MI)))) (x12 : Int) (bound13 : MI) (x14 : LI) (x15 : Option (MI)) : Option ((MI) × LI × (Option (MI))) :=
 if x12 < (c.kids.length : Int) then
  bnd (nth c.kids x12) fun x17 =>
  bnd (q9 x17 bound13 x14 x15) fun x18 =>
  chk (I64 (x12 + 1)) <|
  go16 ((x12 + 1), x18.1, x18.2.1, x18.2.2)
 else
  itr (iY c x14 x15) LF (0, bound13)
def iX (q9 : PC → MI → LI → Option (MI) → Option ((MI) × LI × (Option (MI)))) (c : PC) (go : (Int × (MI) × LI × (Option (MI))) → Option ((MI) × LI × (Option (MI)))) (v : Int × (MI) × LI × (Option (MI))) : Option ((MI) × LI × (Option (MI))) :=
 match v with
 | (x12, bound13, x14, x15) => R8 q9 c go x12 bound13 x14 x15
def R7 (q9 : PC → MI → LI → Option (MI) → Option ((MI) × LI × (Option (MI)))) (c : PC) (x7 : LI) (x8 : Option (MI)) (go11 : (Int × (MI)) → Option ((MI) × LI × (Option (MI)))) (x9 : Int) (bound10 : MI) : Option ((MI) × LI × (Option (MI))) :=
 if x9 < (c.params.length : Int) then
  bnd (nth c.params x9) fun x12 =>
  chk (I64 ((mget bound10 x12) + 1)) <|
  chk (I64 (x9 + 1)) <|
  go11 ((x9 + 1), (mput bound10 x12 ((mget bound10 x12) + 1)))
 else
  itr (iX q9 c) LF (0, bound10, x7, x8)
def oJ (q9 : PC → MI → LI → Option (MI) → Option ((MI) × LI × (Option (MI)))) (c : PC) (x7 : LI) (x8 : Option (MI)) (go : (Int × (MI)) → Option ((MI) × LI × (Option (MI)))) (v : Int × (MI)) : Option ((MI) × LI × (Option (MI))) :=
 match v with
 | (x9, bound10) => R7 q9 c x7 x8 go x9 bound10
def X9 (q9 : PC → MI → LI → Option (MI) → Option ((MI) × LI × (Option (MI)))) (c : PC) (bound : MI) (x7 : LI) (x8 : Option (MI)) : Option ((MI) × LI × (Option (MI))) :=
 itr (oJ q9 c x7 x8) LF (0, bound)
def R6 (q9 : PC → MI → LI → Option (MI) → Option ((MI) × LI × (Option (MI)))) (c : PC) (bound : MI) (list : LI) (seen : Option (MI)) (x6 : Bool) : Option ((MI) × LI × (Option (MI))) :=
 if x6 = true then
  bnd (C7 list seen c.number) fun x7 =>
  X9 q9 c bound x7.1 x7.2
 else
  X9 q9 c bound list seen
def gQ (q9 : PC → MI → LI → Option (MI) → Option ((MI) × LI × (Option (MI)))) (c : PC) (bound : MI) (list : LI) (seen : Option (MI)) : Option ((MI) × LI × (Option (MI))) :=
 if c.kind = 2 then
  R6 q9 c bound list seen (decide ((mget bound c.number) = 0))
 else
  if c.kind = 4 then
   R6 q9 c bound list seen (decide ((mget bound c.number) = 0))
  else
   R6 q9 c bound list seen false
def q9 : Nat → PC → MI → LI → Option (MI) → Option ((MI) × LI × (Option (MI)))
 | 0, _, _, _, _ => none
 | n + 1, c, bound, list, seen => gQ (q9 n) c bound list seen
def M7 (c : PC) : Option (LI) :=
 bnd (q9 RF c ([] : MI) [] (none : Option (MI))) fun x2 =>
 some x2.2.1
def dE (v9 : PD → PD → Option Bool) (a : PD) (b : PD) (go5 : Int → Option Bool) (x4 : Int) : Option Bool :=
 if x4 < (a.items.length : Int) then
  bnd (nth a.items x4) fun x6 =>
  bnd (nth b.items x4) fun x7 =>
  bnd (v9 x6 x7) fun x8 =>
  if x8 = true then
   chk (I64 (x4 + 1)) <|
   go5 (x4 + 1)
  else
   some false
 else
  some true
def fY (v9 : PD → PD → Option Bool) (a : PD) (b : PD) (go : Int → Option Bool) (v : Int) : Option Bool :=
 match v with
 | x4 => dE v9 a b go x4
def Z9 (v9 : PD → PD → Option Bool) (a : PD) (b : PD) : Option Bool :=
 if a.kind = b.kind then
  if a.number = b.number then
   if a.text = b.text then
    if (a.items.length : Int) = (b.items.length : Int) then
     itr (fY v9 a b) LF 0
    else
     some false
   else
    some false
  else
   some false
 else
  some false
def v9 : Nat → PD → PD → Option Bool
 | 0, _, _ => none
 | n + 1, a, b => Z9 (v9 n) a b
def gR (b : Int) : Option Bool :=
 if b ≥ 48 then
  some (decide (b ≤ 57))
 else
  some false
def B5 (b : Int) (x2 : Bool) : Option Bool :=
 if x2 = true then
  some true
 else
  if b = 33 then
   some true
  else
   if b = 63 then
    some true
   else
    if b = 42 then
     some true
    else
     if b = 60 then
      some true
     else
      if b = 62 then
       some true
      else
       if b = 61 then
        some true
       else
        if b = 47 then
         some true
        else
         if b = 43 then
          some true
         else
          if b = 45 then
           some true
          else
           if b = 46 then
            some true
           else
            if b = 95 then
             some true
            else
             some false
def bY (b : Int) : Option Bool :=
 if b ≥ 97 then
  if b ≤ 122 then
   B5 b true
  else
   if b ≥ 48 then
    B5 b (decide (b ≤ 57))
   else
    B5 b false
 else
  if b ≥ 48 then
   B5 b (decide (b ≤ 57))
  else
   B5 b false
def K6 (s : LB) (go4 : Int → Option Bool) (i3 : Int) : Option Bool :=
 if i3 < (s.length : Int) then
  bnd (nth s i3) fun x5 =>
  bnd (bY (x5.toNat : Int)) fun x6 =>
  if x6 = true then
   chk (I64 (i3 + 1)) <|
   go4 (i3 + 1)
  else
   some false
 else
  some true
def iQ (s : LB) (go : Int → Option Bool) (v : Int) : Option Bool :=
 match v with
 | i3 => K6 s go i3
def C6 (s : LB) (x2 : Bool) : Option Bool :=
 if x2 = true then
  some false
 else
  itr (iQ s) LF 0
def gO (s : LB) : Option Bool :=
 if (s.length : Int) < 1 then
  C6 s true
 else
  if (s.length : Int) > 16 then
   C6 s true
  else
   bnd (nth s 0) fun x2 =>
   bnd (gR (x2.toNat : Int)) fun x3 =>
   if x3 = true then
    C6 s true
   else
    bnd (nth s 0) fun x4 =>
    if (x4.toNat : Int) = 45 then
     if (s.length : Int) > 1 then
      bnd (nth s 1) fun x5 =>
      bnd (gR (x5.toNat : Int)) fun x6 =>
      C6 s x6
     else
      C6 s false
    else
     C6 s false
def G1 (s : LB) (go3 : Int → Option Bool) (i2 : Int) : Option Bool :=
 if i2 < (s.length : Int) then
  bnd (nth s i2) fun x4 =>
  if (x4.toNat : Int) < 32 then
   some false
  else
   bnd (nth s i2) fun x5 =>
   if (x5.toNat : Int) > 126 then
    some false
   else
    bnd (nth s i2) fun x6 =>
    if (x6.toNat : Int) = 34 then
     some false
    else
     chk (I64 (i2 + 1)) <|
     go3 (i2 + 1)
 else
  some true
def dN (s : LB) (go : Int → Option Bool) (v : Int) : Option Bool :=
 match v with
 | i2 => G1 s go i2
def bX (s : LB) : Option Bool :=
 if (s.length : Int) > 20 then
  some false
 else
  itr (dN s) LF 0
def dM (kind : Int) (number : Int) (text : LB) (items : Int) : Option Bool :=
 if kind = 0 then
  if number = 0 then
   some (decide (text = ([] : LB)))
  else
   some false
 else
  if kind = 1 then
   if number = 0 then
    if items = 0 then
     bnd (gO text) fun x5 =>
     some x5
    else
     some false
   else
    some false
  else
   if kind = 2 then
    if number ≥ (-999999999) then
     if number ≤ 999999999 then
      if text = ([] : LB) then
       some (decide (items = 0))
      else
       some false
     else
      some false
    else
     some false
   else
    if kind = 3 then
     if number = 0 then
      if text = ([] : LB) then
       some (decide (items = 0))
      else
       some false
     else
      if number = 1 then
       if text = ([] : LB) then
        some (decide (items = 0))
       else
        some false
      else
       some false
    else
     if kind = 4 then
      if number = 0 then
       if items = 0 then
        bnd (bX text) fun x5 =>
        some x5
       else
        some false
      else
       some false
     else
      some false
def O3 (A7 : PD → Int → Int → Option (Bool × Int)) (d : PD) (deep : Int) (go8 : (Int × Int) → Option (Bool × Int)) (x6 : Int) (nodes7 : Int) : Option (Bool × Int) :=
 if x6 < (d.items.length : Int) then
  bnd (nth d.items x6) fun x9 =>
  chk (I64 (deep + 1)) <|
  bnd (A7 x9 (deep + 1) nodes7) fun x10 =>
  if x10.1 = true then
   chk (I64 (x6 + 1)) <|
   go8 ((x6 + 1), x10.2)
  else
   some (false, x10.2)
 else
  some (true, nodes7)
def lG (A7 : PD → Int → Int → Option (Bool × Int)) (d : PD) (deep : Int) (go : (Int × Int) → Option (Bool × Int)) (v : Int × Int) : Option (Bool × Int) :=
 match v with
 | (x6, nodes7) => O3 A7 d deep go x6 nodes7
def dK (A7 : PD → Int → Int → Option (Bool × Int)) (d : PD) (deep : Int) (nodes : Int) : Option (Bool × Int) :=
 chk (I64 (nodes + 1)) <|
 if deep > 20 then
  some (false, (nodes + 1))
 else
  if (nodes + 1) > 600 then
   some (false, (nodes + 1))
  else
   bnd (dM d.kind d.number d.text (d.items.length : Int)) fun x5 =>
   if x5 = true then
    itr (lG A7 d deep) LF (0, (nodes + 1))
   else
    some (false, (nodes + 1))
def A7 : Nat → PD → Int → Int → Option (Bool × Int)
 | 0, _, _, _ => none
 | n + 1, d, deep, nodes => dK (A7 n) d deep nodes
def lB (d : PD) : Option Bool :=
 bnd (A7 RF d 1 0) fun x2 =>
 some x2.1
def u9 : Option (List (LB)) :=
 some ([([43] : LB), ([45] : LB), ([42] : LB), ([61] : LB), ([60] : LB), ([99, 111, 110, 115] : LB), ([99, 97, 114] : LB), ([99, 100, 114] : LB), ([110, 117, 108, 108, 63] : LB), ([112, 97, 105, 114, 63] : LB), ([110, 117, 109, 98, 101, 114, 63] : LB), ([101, 113, 63] : LB), ([110, 111, 116] : LB), ([100, 105, 115, 112, 108, 97, 121] : LB)] : List (LB))
def J0 (c : PC) (go5 : Int → Option Bool) (x4 : Int) : Option Bool :=
 if x4 < (c.kids.length : Int) then
  bnd (nth c.kids x4) fun x6 =>
  if x6.kind = 8 then
   some false
  else
   chk (I64 (x4 + 1)) <|
   go5 (x4 + 1)
 else
  some true
def bO (c : PC) (go : Int → Option Bool) (v : Int) : Option Bool :=
 match v with
 | x4 => J0 c go x4
def B4 (c : PC) (x3 : Bool) : Option Bool :=
 if x3 = true then
  some false
 else
  if c.kind = 1 then
   if (c.params.length : Int) = 0 then
    if (c.kids.length : Int) = 0 then
     bnd (lB c.datum) fun x4 =>
     some x4
    else
     some false
   else
    some false
  else
   if c.kind = 2 then
    if (c.params.length : Int) = 0 then
     some (decide ((c.kids.length : Int) = 0))
    else
     some false
   else
    if c.kind = 3 then
     if (c.params.length : Int) = 0 then
      if (c.kids.length : Int) = 0 then
       if c.number ≥ 0 then
        bnd (u9) fun x4 =>
        some (decide (c.number < (x4.length : Int)))
       else
        some false
      else
       some false
     else
      some false
    else
     if c.kind = 4 then
      if (c.params.length : Int) = 0 then
       some (decide ((c.kids.length : Int) = 1))
      else
       some false
     else
      if c.kind = 5 then
       if (c.params.length : Int) ≤ 8 then
        some (decide ((c.kids.length : Int) = 1))
       else
        some false
      else
       if c.kind = 6 then
        if (c.params.length : Int) = 0 then
         if (c.kids.length : Int) ≥ 1 then
          some (decide ((c.kids.length : Int) ≤ 9))
         else
          some false
        else
         some false
       else
        if c.kind = 7 then
         if (c.params.length : Int) = 0 then
          some (decide ((c.kids.length : Int) = 3))
         else
          some false
        else
         if c.kind = 8 then
          if (c.params.length : Int) = 0 then
           if (c.kids.length : Int) < 2 then
            some false
           else
            if (c.kids.length : Int) > 60 then
             some false
            else
             itr (bO c) LF 0
          else
           some false
         else
          if c.kind = 9 then
           if (c.params.length : Int) ≥ 1 then
            if (c.params.length : Int) ≤ 60 then
             if (c.kids.length : Int) ≥ 1 then
              some (decide ((c.kids.length : Int) ≤ 60))
             else
              some false
            else
             some false
           else
            some false
          else
           if c.kind = 10 then
            if (c.params.length : Int) = 0 then
             some (decide ((c.kids.length : Int) = 1))
            else
             some false
           else
            if c.kind = 11 then
             if (c.params.length : Int) = 1 then
              some (decide ((c.kids.length : Int) = 1))
             else
              some false
            else
             some false
def L4 (c : PC) (x2 : Bool) : Option Bool :=
 if x2 = true then
  some false
 else
  if c.number = 0 then
   B4 c false
  else
   if c.kind = 2 then
    B4 c false
   else
    if c.kind = 3 then
     B4 c false
    else
     B4 c (!decide (c.kind = 4))
def dJ (c : PC) : Option Bool :=
 if c.kind = 1 then
  L4 c false
 else
  bnd (v9 RF c.datum (PD.mk 0 0 ([] : LB) [])) fun x2 =>
  L4 c (!x2)
def I9 (u5 : PC → Int → Int → Option (Bool × Int)) (c : PC) (deep : Int) (go8 : (Int × Int) → Option (Bool × Int)) (x6 : Int) (nodes7 : Int) : Option (Bool × Int) :=
 if x6 < (c.kids.length : Int) then
  bnd (nth c.kids x6) fun x9 =>
  chk (I64 (deep + 1)) <|
  bnd (u5 x9 (deep + 1) nodes7) fun x10 =>
  if x10.1 = true then
   chk (I64 (x6 + 1)) <|
   go8 ((x6 + 1), x10.2)
  else
   some (false, x10.2)
 else
  some (true, nodes7)
def gA (u5 : PC → Int → Int → Option (Bool × Int)) (c : PC) (deep : Int) (go : (Int × Int) → Option (Bool × Int)) (v : Int × Int) : Option (Bool × Int) :=
 match v with
 | (x6, nodes7) => I9 u5 c deep go x6 nodes7
def aD (u5 : PC → Int → Int → Option (Bool × Int)) (c : PC) (deep : Int) (nodes : Int) : Option (Bool × Int) :=
 chk (I64 (nodes + 1)) <|
 if deep > 150 then
  some (false, (nodes + 1))
 else
  if (nodes + 1) > 3000 then
   some (false, (nodes + 1))
  else
   bnd (dJ c) fun x5 =>
   if x5 = true then
    itr (gA u5 c deep) LF (0, (nodes + 1))
   else
    some (false, (nodes + 1))
def u5 : Nat → PC → Int → Int → Option (Bool × Int)
 | 0, _, _, _ => none
 | n + 1, c, deep, nodes => aD (u5 n) c deep nodes
def y7 (x2 : Int) (go4 : (Int × (MI)) → Option Bool) (x5 : LI) (go8 : (Int × (MI)) → Option Bool) (x6 : Int) (seen7 : MI) : Option Bool :=
 if x6 < (x5.length : Int) then
  bnd (nth x5 x6) fun x9 =>
  if x9 < 0 then
   some false
  else
   if x9 > 99999 then
    some false
   else
    if (mget seen7 x9) = 1 then
     some false
    else
     chk (I64 (x6 + 1)) <|
     go8 ((x6 + 1), (mput seen7 x9 1))
 else
  chk (I64 (x2 + 1)) <|
  go4 ((x2 + 1), seen7)
def I0 (x2 : Int) (go4 : (Int × (MI)) → Option Bool) (x5 : LI) (go : (Int × (MI)) → Option Bool) (v : Int × (MI)) : Option Bool :=
 match v with
 | (x6, seen7) => y7 x2 go4 x5 go x6 seen7
def B8 (lists : List (LI)) (go4 : (Int × (MI)) → Option Bool) (x2 : Int) (seen3 : MI) : Option Bool :=
 if x2 < (lists.length : Int) then
  bnd (nth lists x2) fun x5 =>
  itr (I0 x2 go4 x5) LF (0, seen3)
 else
  some true
def G9 (lists : List (LI)) (go : (Int × (MI)) → Option Bool) (v : Int × (MI)) : Option Bool :=
 match v with
 | (x2, seen3) => B8 lists go x2 seen3
def G6 (lists : List (LI)) : Option Bool :=
 itr (G9 lists) LF (0, ([] : MI))
def iR (B3 : PC → LI → Option (LI)) (c : PC) (go6 : (Int × LI) → Option (LI)) (x4 : Int) (out5 : LI) : Option (LI) :=
 if x4 < (c.kids.length : Int) then
  bnd (nth c.kids x4) fun x7 =>
  bnd (B3 x7 out5) fun x8 =>
  chk (I64 (x4 + 1)) <|
  go6 ((x4 + 1), x8)
 else
  some out5
def lC (B3 : PC → LI → Option (LI)) (c : PC) (go : (Int × LI) → Option (LI)) (v : Int × LI) : Option (LI) :=
 match v with
 | (x4, out5) => iR B3 c go x4 out5
def dF (B3 : PC → LI → Option (LI)) (c : PC) (out : LI) : Option (LI) :=
 chk ((out.length + c.params.length) * 8 ≤ 140737488355328) <|
 itr (lC B3 c) LF (0, (out ++ c.params))
def B3 : Nat → PC → LI → Option (LI)
 | 0, _, _ => none
 | n + 1, c, out => dF (B3 n) c out
def P7 (c : PC) : Option (LI) :=
 bnd (B3 RF c []) fun x2 =>
 some x2
def dO (c : PC) : Option Bool :=
 bnd (u5 RF c 1 0) fun x2 =>
 if x2.1 = true then
  bnd (M7 c) fun x3 =>
  bnd (P7 c) fun x4 =>
  bnd (G6 ([x3, x4] : List (LI))) fun x5 =>
  some x5
 else
  some false
def Y1 (x2 : Int) (go4 : (Int × (MI)) → Option (MI)) (x5 : LI) (go8 : (Int × (MI)) → Option (MI)) (x6 : Int) (out7 : MI) : Option (MI) :=
 if x6 < (x5.length : Int) then
  bnd (nth x5 x6) fun x9 =>
  chk (I64 (x6 + 1)) <|
  go8 ((x6 + 1), (mput out7 x9 1))
 else
  chk (I64 (x2 + 1)) <|
  go4 ((x2 + 1), out7)
def sT (x2 : Int) (go4 : (Int × (MI)) → Option (MI)) (x5 : LI) (go : (Int × (MI)) → Option (MI)) (v : Int × (MI)) : Option (MI) :=
 match v with
 | (x6, out7) => Y1 x2 go4 x5 go x6 out7
def Y0 (lists : List (LI)) (go4 : (Int × (MI)) → Option (MI)) (x2 : Int) (out3 : MI) : Option (MI) :=
 if x2 < (lists.length : Int) then
  bnd (nth lists x2) fun x5 =>
  itr (sT x2 go4 x5) LF (0, out3)
 else
  some out3
def sS (lists : List (LI)) (go : (Int × (MI)) → Option (MI)) (v : Int × (MI)) : Option (MI) :=
 match v with
 | (x2, out3) => Y0 lists go x2 out3
def xF (lists : List (LI)) : Option (MI) :=
 itr (sS lists) LF (0, ([] : MI))
def O1 (p9 : PC → LI → Option (MI) → Option (LI × (Option (MI)))) (c : PC) (go10 : (Int × LI × (Option (MI))) → Option (LI × (Option (MI)))) (x7 : Int) (x8 : LI) (x9 : Option (MI)) : Option (LI × (Option (MI))) :=
 if x7 < (c.kids.length : Int) then
  bnd (nth c.kids x7) fun x11 =>
  bnd (p9 x11 x8 x9) fun x12 =>
  chk (I64 (x7 + 1)) <|
  go10 ((x7 + 1), x12.1, x12.2)
 else
  some (x8, x9)
def lD (p9 : PC → LI → Option (MI) → Option (LI × (Option (MI)))) (c : PC) (go : (Int × LI × (Option (MI))) → Option (LI × (Option (MI)))) (v : Int × LI × (Option (MI))) : Option (LI × (Option (MI))) :=
 match v with
 | (x7, x8, x9) => O1 p9 c go x7 x8 x9
def N4 (p9 : PC → LI → Option (MI) → Option (LI × (Option (MI)))) (c : PC) (x5 : LI) (x6 : Option (MI)) : Option (LI × (Option (MI))) :=
 itr (lD p9 c) LF (0, x5, x6)
def O2 (p9 : PC → LI → Option (MI) → Option (LI × (Option (MI)))) (c : PC) (go8 : (Int × LI × (Option (MI))) → Option (LI × (Option (MI)))) (x5 : Int) (x6 : LI) (x7 : Option (MI)) : Option (LI × (Option (MI))) :=
 if x5 < (c.params.length : Int) then
  bnd (nth c.params x5) fun x9 =>
  bnd (C7 x6 x7 x9) fun x10 =>
  chk (I64 (x5 + 1)) <|
  go8 ((x5 + 1), x10.1, x10.2)
 else
  N4 p9 c x6 x7
def lE (p9 : PC → LI → Option (MI) → Option (LI × (Option (MI)))) (c : PC) (go : (Int × LI × (Option (MI))) → Option (LI × (Option (MI)))) (v : Int × LI × (Option (MI))) : Option (LI × (Option (MI))) :=
 match v with
 | (x5, x6, x7) => O2 p9 c go x5 x6 x7
def dG (p9 : PC → LI → Option (MI) → Option (LI × (Option (MI)))) (c : PC) (list : LI) (seen : Option (MI)) : Option (LI × (Option (MI))) :=
 if c.kind = 4 then
  bnd (C7 list seen c.number) fun x5 =>
  N4 p9 c x5.1 x5.2
 else
  if c.kind = 9 then
   itr (lE p9 c) LF (0, list, seen)
  else
   N4 p9 c list seen
def p9 : Nat → PC → LI → Option (MI) → Option (LI × (Option (MI)))
 | 0, _, _, _ => none
 | n + 1, c, list, seen => dG (p9 n) c list seen
def P8 (c : PC) : Option (LI) :=
 bnd (p9 RF c [] (none : Option (MI))) fun x2 =>
 some x2.1
def fF (c : PC) : Option Bool :=
 if c.kind = 1 then
  some (decide ((c.datum.items.length : Int) = 0))
 else
  some false
def vJ (primitive : Int) : Option Bool :=
 bnd (u9) fun x2 =>
 if primitive ≥ 0 then
  if primitive < (x2.length : Int) then
   bnd (nth x2 primitive) fun x3 =>
   if x3 = ([99, 111, 110, 115] : LB) then
    some false
   else
    bnd (nth x2 primitive) fun x4 =>
    some (!decide (x4 = ([100, 105, 115, 112, 108, 97, 121] : LB)))
  else
   some false
 else
  some false
def qQ (primitive : Int) : Option Int :=
 bnd (u9) fun x2 =>
 if primitive < 0 then
  some (-1)
 else
  if primitive ≥ (x2.length : Int) then
   some (-1)
  else
   bnd (nth x2 primitive) fun x3 =>
   if x3 = ([43] : LB) then
    some 2
   else
    if x3 = ([45] : LB) then
     some 2
    else
     if x3 = ([42] : LB) then
      some 2
     else
      if x3 = ([61] : LB) then
       some 2
      else
       if x3 = ([60] : LB) then
        some 2
       else
        if x3 = ([99, 111, 110, 115] : LB) then
         some 2
        else
         if x3 = ([101, 113, 63] : LB) then
          some 2
         else
          some 1
def jA (A8 : PD → List PPair → Option (PVal × List PPair)) (d : PD) (go7 : (Int × List PPair × PVal) → Option (PVal × List PPair)) (i4 : Int) (pairs5 : List PPair) (list6 : PVal) : Option (PVal × List PPair) :=
 if i4 ≥ 0 then
  bnd (nth d.items i4) fun x8 =>
  bnd (A8 x8 pairs5) fun x9 =>
  chk ((x9.2.length + ([(PPair.mk x9.1 list6)] : List PPair).length) * 64 ≤ 140737488355328) <|
  chk (I64 (((x9.2 ++ ([(PPair.mk x9.1 list6)] : List PPair)).length : Int) - 1)) <|
  chk (I64 (i4 - 1)) <|
  go7 ((i4 - 1), (x9.2 ++ ([(PPair.mk x9.1 list6)] : List PPair)), (PVal.mk 7 (((x9.2 ++ ([(PPair.mk x9.1 list6)] : List PPair)).length : Int) - 1) ([] : LB)))
 else
  some (list6, pairs5)
def fG (A8 : PD → List PPair → Option (PVal × List PPair)) (d : PD) (go : (Int × List PPair × PVal) → Option (PVal × List PPair)) (v : Int × List PPair × PVal) : Option (PVal × List PPair) :=
 match v with
 | (i4, pairs5, list6) => jA A8 d go i4 pairs5 list6
def dP (A8 : PD → List PPair → Option (PVal × List PPair)) (d : PD) (pairs : List PPair) : Option (PVal × List PPair) :=
 if d.kind = 1 then
  some ((PVal.mk 4 0 d.text), pairs)
 else
  if d.kind = 2 then
   some ((PVal.mk 3 d.number ([] : LB)), pairs)
  else
   if d.kind = 3 then
    some ((PVal.mk 2 d.number ([] : LB)), pairs)
   else
    if d.kind = 4 then
     some ((PVal.mk 5 0 d.text), pairs)
    else
     chk (I64 ((d.items.length : Int) - 1)) <|
     itr (fG A8 d) LF (((d.items.length : Int) - 1), pairs, (PVal.mk 1 0 ([] : LB)))
def A8 : Nat → PD → List PPair → Option (PVal × List PPair)
 | 0, _, _ => none
 | n + 1, d, pairs => dP (A8 n) d pairs
def K7 (b : Bool) : Option PVal :=
 if b = true then
  some (PVal.mk 2 1 ([] : LB))
 else
  some (PVal.mk 2 0 ([] : LB))
def lF (x_1 : PVal) : Option Bool :=
 if x_1.kind = 2 then
  some (decide (x_1.number = 0))
 else
  some false
def K3 (args : List PVal) (pairs : List PPair) (x5 : LB) (x6 : PVal) (x7 : Bool) : Option (PVal × LB) :=
 if x7 = true then
  if x6.kind = 7 then
   if x5 = ([99, 97, 114] : LB) then
    bnd (nth pairs x6.number) fun x8 =>
    some (x8.h, ([] : LB))
   else
    bnd (nth pairs x6.number) fun x8 =>
    some (x8.t, ([] : LB))
  else
   chk (x5.length + ([58, 32, 98, 97, 100, 32, 97, 114, 103, 117, 109, 101, 110, 116] : LB).length ≤ 9223372036854775807) <|
   some ((PVal.mk 0 0 ([] : LB)), (x5 ++ ([58, 32, 98, 97, 100, 32, 97, 114, 103, 117, 109, 101, 110, 116] : LB)))
 else
  bnd (nth args 1) fun x8 =>
  if x6.kind = 3 then
   if x8.kind = 3 then
    if x5 = ([61] : LB) then
     bnd (K7 (decide (x6.number = x8.number))) fun x9 =>
     some (x9, ([] : LB))
    else
     if x5 = ([60] : LB) then
      bnd (K7 (decide (x6.number < x8.number))) fun x9 =>
      some (x9, ([] : LB))
     else
      if x5 = ([43] : LB) then
       chk (I64 (x6.number + x8.number)) <|
       if (x6.number + x8.number) < (-999999999) then
        some ((PVal.mk 0 0 ([] : LB)), ([110, 117, 109, 98, 101, 114, 32, 116, 111, 111, 32, 108, 97, 114, 103, 101] : LB))
       else
        if (x6.number + x8.number) > 999999999 then
         some ((PVal.mk 0 0 ([] : LB)), ([110, 117, 109, 98, 101, 114, 32, 116, 111, 111, 32, 108, 97, 114, 103, 101] : LB))
        else
         some ((PVal.mk 3 (x6.number + x8.number) ([] : LB)), ([] : LB))
      else
       if x5 = ([45] : LB) then
        chk (I64 (x6.number - x8.number)) <|
        if (x6.number - x8.number) < (-999999999) then
         some ((PVal.mk 0 0 ([] : LB)), ([110, 117, 109, 98, 101, 114, 32, 116, 111, 111, 32, 108, 97, 114, 103, 101] : LB))
        else
         if (x6.number - x8.number) > 999999999 then
          some ((PVal.mk 0 0 ([] : LB)), ([110, 117, 109, 98, 101, 114, 32, 116, 111, 111, 32, 108, 97, 114, 103, 101] : LB))
         else
          some ((PVal.mk 3 (x6.number - x8.number) ([] : LB)), ([] : LB))
       else
        if x5 = ([42] : LB) then
         chk (I64 (x6.number * x8.number)) <|
         if (x6.number * x8.number) < (-999999999) then
          some ((PVal.mk 0 0 ([] : LB)), ([110, 117, 109, 98, 101, 114, 32, 116, 111, 111, 32, 108, 97, 114, 103, 101] : LB))
         else
          if (x6.number * x8.number) > 999999999 then
           some ((PVal.mk 0 0 ([] : LB)), ([110, 117, 109, 98, 101, 114, 32, 116, 111, 111, 32, 108, 97, 114, 103, 101] : LB))
          else
           some ((PVal.mk 3 (x6.number * x8.number) ([] : LB)), ([] : LB))
        else
         if 0 < (-999999999) then
          some ((PVal.mk 0 0 ([] : LB)), ([110, 117, 109, 98, 101, 114, 32, 116, 111, 111, 32, 108, 97, 114, 103, 101] : LB))
         else
          if 0 > 999999999 then
           some ((PVal.mk 0 0 ([] : LB)), ([110, 117, 109, 98, 101, 114, 32, 116, 111, 111, 32, 108, 97, 114, 103, 101] : LB))
          else
           some ((PVal.mk 3 0 ([] : LB)), ([] : LB))
   else
    chk (x5.length + ([58, 32, 98, 97, 100, 32, 97, 114, 103, 117, 109, 101, 110, 116] : LB).length ≤ 9223372036854775807) <|
    some ((PVal.mk 0 0 ([] : LB)), (x5 ++ ([58, 32, 98, 97, 100, 32, 97, 114, 103, 117, 109, 101, 110, 116] : LB)))
  else
   chk (x5.length + ([58, 32, 98, 97, 100, 32, 97, 114, 103, 117, 109, 101, 110, 116] : LB).length ≤ 9223372036854775807) <|
   some ((PVal.mk 0 0 ([] : LB)), (x5 ++ ([58, 32, 98, 97, 100, 32, 97, 114, 103, 117, 109, 101, 110, 116] : LB)))
def M8 (primitive : Int) (args : List PVal) (pairs : List PPair) : Option (PVal × LB) :=
 bnd (u9) fun x4 =>
 bnd (nth x4 primitive) fun x5 =>
 bnd (nth args 0) fun x6 =>
 if x5 = ([110, 117, 108, 108, 63] : LB) then
  bnd (K7 (decide (x6.kind = 1))) fun x7 =>
  some (x7, ([] : LB))
 else
  if x5 = ([112, 97, 105, 114, 63] : LB) then
   bnd (K7 (decide (x6.kind = 7))) fun x7 =>
   some (x7, ([] : LB))
  else
   if x5 = ([110, 117, 109, 98, 101, 114, 63] : LB) then
    bnd (K7 (decide (x6.kind = 3))) fun x7 =>
    some (x7, ([] : LB))
   else
    if x5 = ([110, 111, 116] : LB) then
     bnd (lF x6) fun x7 =>
     bnd (K7 x7) fun x8 =>
     some (x8, ([] : LB))
    else
     if x5 = ([101, 113, 63] : LB) then
      bnd (nth args 1) fun x7 =>
      bnd (K7 (decide (x6 = x7))) fun x8 =>
      some (x8, ([] : LB))
     else
      if x5 = ([99, 97, 114] : LB) then
       K3 args pairs x5 x6 true
      else
       K3 args pairs x5 x6 (decide (x5 = ([99, 100, 114] : LB)))
def bW (c : PC) (x3 : PC) (go8 : (Int × List PVal) → Option (PC × Bool)) (x6 : Int) (args7 : List PVal) : Option (PC × Bool) :=
 if x6 < ((c.kids.drop (1 : Int).toNat).length : Int) then
  bnd (nth (c.kids.drop (1 : Int).toNat) x6) fun x9 =>
  bnd (fF x9) fun x10 =>
  if x10 = true then
   bnd (A8 RF x9.datum []) fun x11 =>
   chk ((args7.length + ([x11.1] : List PVal).length) * 32 ≤ 140737488355328) <|
   chk (I64 (x6 + 1)) <|
   go8 ((x6 + 1), (args7 ++ ([x11.1] : List PVal)))
  else
   some ((PC.mk 0 0 [] (PD.mk 0 0 ([] : LB) []) []), false)
 else
  bnd (M8 x3.number args7 []) fun x9 =>
  if x9.2 = ([] : LB) then
   if x9.1.kind = 1 then
    some ((PC.mk 1 0 [] (PD.mk 0 0 ([] : LB) []) []), true)
   else
    if x9.1.kind = 2 then
     some ((PC.mk 1 0 [] (PD.mk 3 x9.1.number ([] : LB) []) []), true)
    else
     if x9.1.kind = 3 then
      some ((PC.mk 1 0 [] (PD.mk 2 x9.1.number ([] : LB) []) []), true)
     else
      some ((PC.mk 0 0 [] (PD.mk 0 0 ([] : LB) []) []), false)
  else
   some ((PC.mk 0 0 [] (PD.mk 0 0 ([] : LB) []) []), false)
def oI (c : PC) (x3 : PC) (go : (Int × List PVal) → Option (PC × Bool)) (v : Int × List PVal) : Option (PC × Bool) :=
 match v with
 | (x6, args7) => bW c x3 go x6 args7
def qS (c : PC) : Option (PC × Bool) :=
 if c.kind = 6 then
  bnd (nth c.kids 0) fun x2 =>
  if x2.kind = 3 then
   bnd (nth c.kids 0) fun x3 =>
   bnd (vJ x3.number) fun x4 =>
   if x4 = true then
    chk (I64 ((c.kids.length : Int) - 1)) <|
    bnd (qQ x3.number) fun x5 =>
    if ((c.kids.length : Int) - 1) = x5 then
     chk (0 ≤ (1 : Int) ∧ (1 : Int) ≤ c.kids.length) <|
     itr (oI c x3) LF (0, [])
    else
     some ((PC.mk 0 0 [] (PD.mk 0 0 ([] : LB) []) []), false)
   else
    some ((PC.mk 0 0 [] (PD.mk 0 0 ([] : LB) []) []), false)
  else
   some ((PC.mk 0 0 [] (PD.mk 0 0 ([] : LB) []) []), false)
 else
  some ((PC.mk 0 0 [] (PD.mk 0 0 ([] : LB) []) []), false)
def Z1 (c : PC) (boxed : MI) : Option Bool :=
 bnd (fF c) fun x3 =>
 if x3 = true then
  some true
 else
  if c.kind = 3 then
   some true
  else
   if c.kind = 2 then
    some (decide ((mget boxed c.number) = 0))
   else
    some false
def gP (list : LI) : Option (LI) :=
 chk (list.length * 8 ≤ 140737488355328) <|
 some list
def aB (o7 : PD → Option PD) (A2 : List PD → Option (List PD)) (d : PD) : Option PD :=
 bnd (A2 d.items) fun x4 =>
 some (PD.mk d.kind d.number d.text x4)
def L3 (o7 : PD → Option PD) (list : List PD) (go6 : (Int × List PD) → Option (List PD)) (x4 : Int) (out5 : List PD) : Option (List PD) :=
 if x4 < (list.length : Int) then
  bnd (nth list x4) fun x7 =>
  bnd (o7 x7) fun x8 =>
  chk ((out5.length + ([x8] : List PD).length) * 56 ≤ 140737488355328) <|
  chk (I64 (x4 + 1)) <|
  go6 ((x4 + 1), (out5 ++ ([x8] : List PD)))
 else
  some out5
def iT (o7 : PD → Option PD) (list : List PD) (go : (Int × List PD) → Option (List PD)) (v : Int × List PD) : Option (List PD) :=
 match v with
 | (x4, out5) => L3 o7 list go x4 out5
def bV (o7 : PD → Option PD) (A2 : List PD → Option (List PD)) (list : List PD) : Option (List PD) :=
 itr (iT o7 list) LF (0, [])
mutual
def o7 : Nat → PD → Option PD
 | 0, _ => none
 | n + 1, d => aB (o7 n) (A2 n) d
def A2 : Nat → List PD → Option (List PD)
 | 0, _ => none
 | n + 1, list => bV (o7 n) (A2 n) list
end
def K9 (o4 : PC → Option PC) (c : PC) (x3 : LI) (x4 : PD) (go7 : (Int × List PC) → Option PC) (x5 : Int) (x6 : List PC) : Option PC :=
 if x5 < (c.kids.length : Int) then
  bnd (nth c.kids x5) fun x8 =>
  bnd (o4 x8) fun x9 =>
  chk ((x6.length + ([x9] : List PC).length) * 120 ≤ 140737488355328) <|
  chk (I64 (x5 + 1)) <|
  go7 ((x5 + 1), (x6 ++ ([x9] : List PC)))
 else
  some (PC.mk c.kind c.number x3 x4 x6)
def iS (o4 : PC → Option PC) (c : PC) (x3 : LI) (x4 : PD) (go : (Int × List PC) → Option PC) (v : Int × List PC) : Option PC :=
 match v with
 | (x5, x6) => K9 o4 c x3 x4 go x5 x6
def bU (o4 : PC → Option PC) (c : PC) : Option PC :=
 bnd (gP c.params) fun x3 =>
 bnd (o7 RF c.datum) fun x4 =>
 itr (iS o4 c x3 x4) LF (0, [])
def o4 : Nat → PC → Option PC
 | 0, _ => none
 | n + 1, c => bU (o4 n) c
def D6 (m0 : PC → Int → PC → Option PC) (c : PC) (x_1 : Int) (simple : PC) (x6 : PC) (go9 : (Int × List PC) → Option PC) (x7 : Int) (x8 : List PC) : Option PC :=
 if x7 < (c.kids.length : Int) then
  bnd (nth c.kids x7) fun x10 =>
  bnd (m0 x10 x_1 simple) fun x11 =>
  chk ((x8.length + ([x11] : List PC).length) * 120 ≤ 140737488355328) <|
  chk (I64 (x7 + 1)) <|
  go9 ((x7 + 1), (x8 ++ ([x11] : List PC)))
 else
  some (PC.mk x6.kind x6.number x6.params x6.datum x8)
def G2 (m0 : PC → Int → PC → Option PC) (c : PC) (x_1 : Int) (simple : PC) (x6 : PC) (go : (Int × List PC) → Option PC) (v : Int × List PC) : Option PC :=
 match v with
 | (x7, x8) => D6 m0 c x_1 simple x6 go x7 x8
def K1 (m0 : PC → Int → PC → Option PC) (c : PC) (x_1 : Int) (simple : PC) (x5 : Bool) : Option PC :=
 if x5 = true then
  bnd (o4 RF simple) fun x6 =>
  some x6
 else
  bnd (o4 RF (PC.mk c.kind c.number c.params c.datum [])) fun x6 =>
  itr (G2 m0 c x_1 simple x6) LF (0, x6.kids)
def S5 (m0 : PC → Int → PC → Option PC) (c : PC) (x_1 : Int) (simple : PC) : Option PC :=
 if c.kind = 2 then
  K1 m0 c x_1 simple (decide (c.number = x_1))
 else
  K1 m0 c x_1 simple false
def m0 : Nat → PC → Int → PC → Option PC
 | 0, _, _, _ => none
 | n + 1, c, x_1, simple => S5 (m0 n) c x_1 simple
def F9 (c : PC) (x4 : PC) (go18 : (Int × Int × Int × Int × Int × LB × LI × List PD × List PC) → Option (PC × Bool)) (x9 : Int) (out10 : Int) (out11 : Int) (out12 : Int) (out13 : Int) (out14 : LB) (x15 : LI) (x16 : List PD) (x17 : List PC) : Option (PC × Bool) :=
 if x9 < (x4.params.length : Int) then
  bnd (nth x4.params x9) fun x19 =>
  chk (I64 (x9 + 1)) <|
  bnd (nth c.kids (x9 + 1)) fun x20 =>
  bnd (m0 RF (PC.mk out10 out11 x15 (PD.mk out12 out13 out14 x16) x17) x19 x20) fun x21 =>
  chk (I64 (x9 + 1)) <|
  go18 ((x9 + 1), x21.kind, x21.number, x21.datum.kind, x21.datum.number, x21.datum.text, x21.params, x21.datum.items, x21.kids)
 else
  some ((PC.mk out10 out11 x15 (PD.mk out12 out13 out14 x16) x17), true)
def aF (c : PC) (x4 : PC) (go : (Int × Int × Int × Int × Int × LB × LI × List PD × List PC) → Option (PC × Bool)) (v : Int × Int × Int × Int × Int × LB × LI × List PD × List PC) : Option (PC × Bool) :=
 match v with
 | (x9, out10, out11, out12, out13, out14, x15, x16, x17) => F9 c x4 go x9 out10 out11 out12 out13 out14 x15 x16 x17
def Q0 (c : PC) (boxed : MI) (x4 : PC) (go6 : Int → Option (PC × Bool)) (x5 : Int) : Option (PC × Bool) :=
 if x5 < (x4.params.length : Int) then
  bnd (nth x4.params x5) fun x7 =>
  if (mget boxed x7) = 1 then
   some ((PC.mk 0 0 [] (PD.mk 0 0 ([] : LB) []) []), false)
  else
   chk (I64 (x5 + 1)) <|
   bnd (nth c.kids (x5 + 1)) fun x8 =>
   bnd (Z1 x8 boxed) fun x9 =>
   if x9 = true then
    chk (I64 (x5 + 1)) <|
    go6 (x5 + 1)
   else
    some ((PC.mk 0 0 [] (PD.mk 0 0 ([] : LB) []) []), false)
 else
  bnd (nth x4.kids 0) fun x7 =>
  bnd (o4 RF x7) fun x8 =>
  itr (aF c x4) LF (0, x8.kind, x8.number, x8.datum.kind, x8.datum.number, x8.datum.text, x8.params, x8.datum.items, x8.kids)
def aE (c : PC) (boxed : MI) (x4 : PC) (go : Int → Option (PC × Bool)) (v : Int) : Option (PC × Bool) :=
 match v with
 | x5 => Q0 c boxed x4 go x5
def M9 (c : PC) (x6 : Bool) : Option (PC × Bool) :=
 if x6 = true then
  bnd (nth c.kids 2) fun x7 =>
  bnd (o4 RF x7) fun x8 =>
  some (x8, true)
 else
  bnd (nth c.kids 1) fun x7 =>
  bnd (o4 RF x7) fun x8 =>
  some (x8, true)
def N0 (x3 : Int) (go5 : (Int × List PC) → Option (PC × Bool)) (kids6 : List PC) : Option (PC × Bool) :=
 chk (I64 (x3 + 1)) <|
 go5 ((x3 + 1), kids6)
def N1 (x3 : Int) (kids4 : List PC) (go5 : (Int × List PC) → Option (PC × Bool)) (x6 : PC) (x8 : Bool) : Option (PC × Bool) :=
 if x8 = true then
  bnd (o4 RF x6) fun x9 =>
  chk ((kids4.length + ([x9] : List PC).length) * 120 ≤ 140737488355328) <|
  N0 x3 go5 (kids4 ++ ([x9] : List PC))
 else
  N0 x3 go5 kids4
def J1 (c : PC) (x3 : Int) (kids4 : List PC) (go5 : (Int × List PC) → Option (PC × Bool)) (x6 : PC) (idle7 : Bool) : Option (PC × Bool) :=
 if idle7 = true then
  chk (I64 (x3 + 1)) <|
  N1 x3 kids4 go5 x6 (decide ((x3 + 1) = (c.kids.length : Int)))
 else
  N1 x3 kids4 go5 x6 true
def G0 (c : PC) (go5 : (Int × List PC) → Option (PC × Bool)) (x3 : Int) (kids4 : List PC) : Option (PC × Bool) :=
 if x3 < (c.kids.length : Int) then
  bnd (nth c.kids x3) fun x6 =>
  if x6.kind = 1 then
   J1 c x3 kids4 go5 x6 true
  else
   if x6.kind = 3 then
    J1 c x3 kids4 go5 x6 true
   else
    J1 c x3 kids4 go5 x6 (decide (x6.kind = 5))
 else
  if (kids4.length : Int) = (c.kids.length : Int) then
   some ((PC.mk 0 0 [] (PD.mk 0 0 ([] : LB) []) []), false)
  else
   if (kids4.length : Int) = 1 then
    bnd (nth kids4 0) fun x6 =>
    some (x6, true)
   else
    some ((PC.mk 8 0 [] (PD.mk 0 0 ([] : LB) []) kids4), true)
def aG (c : PC) (go : (Int × List PC) → Option (PC × Bool)) (v : Int × List PC) : Option (PC × Bool) :=
 match v with
 | (x3, kids4) => G0 c go x3 kids4
def Z2 (c : PC) (boxed : MI) : Option (PC × Bool) :=
 if c.kind = 6 then
  bnd (qS c) fun x3 =>
  if x3.2 = true then
   some (x3.1, true)
  else
   bnd (nth c.kids 0) fun x4 =>
   if x4.kind = 5 then
    chk (I64 ((c.kids.length : Int) - 1)) <|
    if (x4.params.length : Int) = ((c.kids.length : Int) - 1) then
     itr (aE c boxed x4) LF 0
    else
     some ((PC.mk 0 0 [] (PD.mk 0 0 ([] : LB) []) []), false)
   else
    some ((PC.mk 0 0 [] (PD.mk 0 0 ([] : LB) []) []), false)
 else
  if c.kind = 7 then
   bnd (nth c.kids 0) fun x3 =>
   bnd (fF x3) fun x4 =>
   if x4 = true then
    bnd (nth c.kids 0) fun x5 =>
    if x5.datum.kind = 3 then
     M9 c (decide (x5.datum.number = 0))
    else
     M9 c false
   else
    some ((PC.mk 0 0 [] (PD.mk 0 0 ([] : LB) []) []), false)
  else
   if c.kind = 8 then
    itr (aG c) LF (0, [])
   else
    some ((PC.mk 0 0 [] (PD.mk 0 0 ([] : LB) []) []), false)
def gS (x6 : Int) (go8 : (Int × Int × List PC) → Option (PC × Int)) (x9 : Int) (x10 : List PC) : Option (PC × Int) :=
 chk (I64 (x6 + 1)) <|
 go8 (x9, (x6 + 1), x10)
def gT (x5 : Int) (x6 : Int) (x7 : List PC) (go8 : (Int × Int × List PC) → Option (PC × Int)) (x10 : PC × Int) (x11 : Bool) : Option (PC × Int) :=
 if x11 = true then
  chk ((x7.length + x10.1.kids.length) * 120 ≤ 140737488355328) <|
  gS x6 go8 (x5 + x10.2) (x7 ++ x10.1.kids)
 else
  chk ((x7.length + ([x10.1] : List PC).length) * 120 ≤ 140737488355328) <|
  gS x6 go8 (x5 + x10.2) (x7 ++ ([x10.1] : List PC))
def dL (c : PC) (boxed : MI) (x4 : PC) (x5 : Int) (x7 : List PC) (x9 : Bool) : Option (PC × Int) :=
 if x9 = true then
  bnd (o4 RF c) fun x10 =>
  some (x10, 0)
 else
  bnd (Z2 (PC.mk x4.kind x4.number x4.params x4.datum x7) boxed) fun x10 =>
  if x10.2 = true then
   chk (I64 (x5 + 1)) <|
   some (x10.1, (x5 + 1))
  else
   some ((PC.mk x4.kind x4.number x4.params x4.datum x7), x5)
def gU (W2 : PC → MI → Option (PC × Int)) (c : PC) (boxed : MI) (x4 : PC) (go8 : (Int × Int × List PC) → Option (PC × Int)) (x5 : Int) (x6 : Int) (x7 : List PC) : Option (PC × Int) :=
 if x6 < (c.kids.length : Int) then
  bnd (nth c.kids x6) fun x9 =>
  bnd (W2 x9 boxed) fun x10 =>
  chk (I64 (x5 + x10.2)) <|
  if c.kind = 8 then
   gT x5 x6 x7 go8 x10 (decide (x10.1.kind = 8))
  else
   gT x5 x6 x7 go8 x10 false
 else
  if c.kind = 8 then
   dL c boxed x4 x5 x7 (decide ((x7.length : Int) > 60))
  else
   dL c boxed x4 x5 x7 false
def qT (W2 : PC → MI → Option (PC × Int)) (c : PC) (boxed : MI) (x4 : PC) (go : (Int × Int × List PC) → Option (PC × Int)) (v : Int × Int × List PC) : Option (PC × Int) :=
 match v with
 | (x5, x6, x7) => gU W2 c boxed x4 go x5 x6 x7
def qU (W2 : PC → MI → Option (PC × Int)) (c : PC) (boxed : MI) : Option (PC × Int) :=
 bnd (o4 RF (PC.mk c.kind c.number c.params c.datum [])) fun x4 =>
 itr (qT W2 c boxed x4) LF (0, 0, x4.kids)
def W2 : Nat → PC → MI → Option (PC × Int)
 | 0, _, _ => none
 | n + 1, c, boxed => qU (W2 n) c boxed
def lI (c : PC) (globals : LI) : Option (PC × Int) :=
 bnd (P8 c) fun x3 =>
 bnd (M7 c) fun x4 =>
 bnd (xF ([x3, x4, globals] : List (LI))) fun x5 =>
 bnd (W2 RF c x5) fun x6 =>
 some (x6.1, x6.2)
def Q7 (c : PC) : Option (PC × Int) :=
 bnd (dO c) fun x2 =>
 if x2 = true then
  bnd (lI c []) fun x3 =>
  some (x3.1, x3.2)
 else
  some ((PC.mk 0 0 [] (PD.mk 0 0 ([] : LB) []) []), 0)
end Go.Abs

namespace Go.Abs
set_option linter.unusedVariables false
def cQ (list : LI) : Option (LI) :=
 chk ((([] : LI).length + list.length) * 8 ≤ 140737488355328) <|
 some (([] : LI) ++ list)
def bC (D9 : PC → Int → Option (Bool × Int)) (c : PC) (i4 : Int) (left5 : Int) (go6 : (Int × Int) → Option (Bool × Int)) (x7 : Bool) : Option (Bool × Int) :=
 if x7 = true then
  bnd (nth c.kids i4) fun x8 =>
  bnd (D9 x8 left5) fun x9 =>
  chk (I64 (i4 + 1)) <|
  go6 ((i4 + 1), x9.2)
 else
  some ((decide (left5 ≥ 0)), left5)
def Y6 (D9 : PC → Int → Option (Bool × Int)) (c : PC) (go6 : (Int × Int) → Option (Bool × Int)) (i4 : Int) (left5 : Int) : Option (Bool × Int) :=
 if i4 < (c.kids.length : Int) then
  bC D9 c i4 left5 go6 (decide (left5 ≥ 0))
 else
  bC D9 c i4 left5 go6 false
def tM (D9 : PC → Int → Option (Bool × Int)) (c : PC) (go : (Int × Int) → Option (Bool × Int)) (v : Int × Int) : Option (Bool × Int) :=
 match v with
 | (i4, left5) => Y6 D9 c go i4 left5
def lX (D9 : PC → Int → Option (Bool × Int)) (c : PC) (left : Int) : Option (Bool × Int) :=
 chk (I64 (left - 1)) <|
 itr (tM D9 c) LF (0, (left - 1))
def D9 : Nat → PC → Int → Option (Bool × Int)
 | 0, _, _ => none
 | n + 1, c, left => lX (D9 n) c left
def hU (c : PC) : Option Bool :=
 bnd (D9 RF c 3000) fun x2 =>
 some x2.1
def gC (list : LI) (x_1 : Int) (go4 : Int → Option Bool) (x3 : Int) : Option Bool :=
 if x3 < (list.length : Int) then
  bnd (nth list x3) fun x5 =>
  if x5 = x_1 then
   some true
  else
   chk (I64 (x3 + 1)) <|
   go4 (x3 + 1)
 else
  some false
def rK (list : LI) (x_1 : Int) (go : Int → Option Bool) (v : Int) : Option Bool :=
 match v with
 | x3 => gC list x_1 go x3
def F8 (list : LI) (x_1 : Int) : Option Bool :=
 itr (rK list x_1) LF 0
def cD (c : PC) : Option Bool :=
 if c.kind = 2 then
  some true
 else
  some (decide (c.kind = 4))
def lZ (v7 : PC → LI → LI → Option (LI)) (c : PC) (x7 : LI) (go10 : (Int × LI) → Option (LI)) (x8 : Int) (out9 : LI) : Option (LI) :=
 if x8 < (c.kids.length : Int) then
  bnd (nth c.kids x8) fun x11 =>
  bnd (v7 x11 (x7 ++ c.params) out9) fun x12 =>
  chk (I64 (x8 + 1)) <|
  go10 ((x8 + 1), x12)
 else
  some out9
def pI (v7 : PC → LI → LI → Option (LI)) (c : PC) (x7 : LI) (go : (Int × LI) → Option (LI)) (v : Int × LI) : Option (LI) :=
 match v with
 | (x8, out9) => lZ v7 c x7 go x8 out9
def Y7 (v7 : PC → LI → LI → Option (LI)) (c : PC) (bound : LI) (out6 : LI) : Option (LI) :=
 bnd (cQ bound) fun x7 =>
 chk ((x7.length + c.params.length) * 8 ≤ 140737488355328) <|
 itr (pI v7 c x7) LF (0, out6)
def U5 (v7 : PC → LI → LI → Option (LI)) (c : PC) (bound : LI) (out : LI) (x5 : Bool) : Option (LI) :=
 if x5 = true then
  chk ((out.length + ([c.number] : LI).length) * 8 ≤ 140737488355328) <|
  Y7 v7 c bound (out ++ ([c.number] : LI))
 else
  Y7 v7 c bound out
def hO (v7 : PC → LI → LI → Option (LI)) (c : PC) (bound : LI) (out : LI) : Option (LI) :=
 bnd (cD c) fun x5 =>
 if x5 = true then
  bnd (F8 bound c.number) fun x6 =>
  if x6 = true then
   U5 v7 c bound out false
  else
   bnd (F8 out c.number) fun x7 =>
   U5 v7 c bound out (!x7)
 else
  U5 v7 c bound out false
def v7 : Nat → PC → LI → LI → Option (LI)
 | 0, _, _, _ => none
 | n + 1, c, bound, out => hO (v7 n) c bound out
def jS (c : PC) (x6 : LI) (go9 : (Int × LI) → Option (LI)) (x7 : Int) (out8 : LI) : Option (LI) :=
 if x7 < (c.kids.length : Int) then
  bnd (nth c.kids x7) fun x10 =>
  bnd (v7 RF x10 (x6 ++ c.params) out8) fun x11 =>
  chk (I64 (x7 + 1)) <|
  go9 ((x7 + 1), x11)
 else
  some out8
def lY (c : PC) (x6 : LI) (go : (Int × LI) → Option (LI)) (v : Int × LI) : Option (LI) :=
 match v with
 | (x7, out8) => jS c x6 go x7 out8
def U4 (c : PC) (bound : LI) (out5 : LI) : Option (LI) :=
 bnd (cQ bound) fun x6 =>
 chk ((x6.length + c.params.length) * 8 ≤ 140737488355328) <|
 itr (lY c x6) LF (0, out5)
def N6 (c : PC) (bound : LI) (out : LI) (x4 : Bool) : Option (LI) :=
 if x4 = true then
  chk ((out.length + ([c.number] : LI).length) * 8 ≤ 140737488355328) <|
  U4 c bound (out ++ ([c.number] : LI))
 else
  U4 c bound out
def rQ (c : PC) (bound : LI) (out : LI) : Option (LI) :=
 bnd (cD c) fun x4 =>
 if x4 = true then
  bnd (F8 bound c.number) fun x5 =>
  if x5 = true then
   N6 c bound out false
  else
   bnd (F8 out c.number) fun x6 =>
   N6 c bound out (!x6)
 else
  N6 c bound out false
def J4 (c : PC) : Option (LI) :=
 bnd (rQ c [] ([] : LI)) fun x2 =>
 some x2
def D7 (r7 : PC → Option Int) (c : PC) (go5 : (Int × Int) → Option Int) (x3 : Int) (x4 : Int) : Option Int :=
 if x4 < (c.kids.length : Int) then
  bnd (nth c.kids x4) fun x6 =>
  bnd (r7 x6) fun x7 =>
  chk (I64 (x4 + 1)) <|
  go5 ((max x3 x7), (x4 + 1))
 else
  chk (I64 (x3 + 1)) <|
  some (x3 + 1)
def cN (r7 : PC → Option Int) (c : PC) (go : (Int × Int) → Option Int) (v : Int × Int) : Option Int :=
 match v with
 | (x3, x4) => D7 r7 c go x3 x4
def S7 (r7 : PC → Option Int) (c : PC) : Option Int :=
 itr (cN r7 c) LF (0, 0)
def r7 : Nat → PC → Option Int
 | 0, _ => none
 | n + 1, c => S7 (r7 n) c
def aR (x_1 : Int) (a : Int) (b : Int) : Option Bool :=
 if x_1 ≥ a then
  some (decide (x_1 ≤ b))
 else
  some false
def m9 : Option (List (LB)) :=
 some ([([43] : LB), ([45] : LB), ([42] : LB), ([61] : LB), ([60] : LB), ([99, 111, 110, 115] : LB), ([99, 97, 114] : LB), ([99, 100, 114] : LB), ([110, 117, 108, 108, 63] : LB), ([112, 97, 105, 114, 63] : LB), ([110, 117, 109, 98, 101, 114, 63] : LB), ([101, 113, 63] : LB), ([110, 111, 116] : LB), ([100, 105, 115, 112, 108, 97, 121] : LB)] : List (LB))
def dY (w5 : PD → PD → Option Bool) (a : PD) (b : PD) (go5 : Int → Option Bool) (x4 : Int) : Option Bool :=
 if x4 < (a.items.length : Int) then
  bnd (nth a.items x4) fun x6 =>
  bnd (nth b.items x4) fun x7 =>
  bnd (w5 x6 x7) fun x8 =>
  if x8 = true then
   chk (I64 (x4 + 1)) <|
   go5 (x4 + 1)
  else
   some false
 else
  some true
def gB (w5 : PD → PD → Option Bool) (a : PD) (b : PD) (go : Int → Option Bool) (v : Int) : Option Bool :=
 match v with
 | x4 => dY w5 a b go x4
def aK (w5 : PD → PD → Option Bool) (a : PD) (b : PD) : Option Bool :=
 if a.kind = b.kind then
  if a.number = b.number then
   if a.text = b.text then
    if (a.items.length : Int) = (b.items.length : Int) then
     itr (gB w5 a b) LF 0
    else
     some false
   else
    some false
  else
   some false
 else
  some false
def w5 : Nat → PD → PD → Option Bool
 | 0, _, _ => none
 | n + 1, a, b => aK (w5 n) a b
def bB (D8 : PD → Int → Option (Bool × Int)) (d : PD) (i4 : Int) (left5 : Int) (go6 : (Int × Int) → Option (Bool × Int)) (x7 : Bool) : Option (Bool × Int) :=
 if x7 = true then
  bnd (nth d.items i4) fun x8 =>
  bnd (D8 x8 left5) fun x9 =>
  chk (I64 (i4 + 1)) <|
  go6 ((i4 + 1), x9.2)
 else
  some ((decide (left5 ≥ 0)), left5)
def Y5 (D8 : PD → Int → Option (Bool × Int)) (d : PD) (go6 : (Int × Int) → Option (Bool × Int)) (i4 : Int) (left5 : Int) : Option (Bool × Int) :=
 if i4 < (d.items.length : Int) then
  bB D8 d i4 left5 go6 (decide (left5 ≥ 0))
 else
  bB D8 d i4 left5 go6 false
def tL (D8 : PD → Int → Option (Bool × Int)) (d : PD) (go : (Int × Int) → Option (Bool × Int)) (v : Int × Int) : Option (Bool × Int) :=
 match v with
 | (i4, left5) => Y5 D8 d go i4 left5
def lT (D8 : PD → Int → Option (Bool × Int)) (d : PD) (left : Int) : Option (Bool × Int) :=
 chk (I64 (left - 1)) <|
 itr (tL D8 d) LF (0, (left - 1))
def D8 : Nat → PD → Int → Option (Bool × Int)
 | 0, _, _ => none
 | n + 1, d, left => lT (D8 n) d left
def O8 (A9 : PD → Option Int) (d : PD) (go5 : (Int × Int) → Option Int) (x3 : Int) (x4 : Int) : Option Int :=
 if x4 < (d.items.length : Int) then
  bnd (nth d.items x4) fun x6 =>
  bnd (A9 x6) fun x7 =>
  chk (I64 (x4 + 1)) <|
  go5 ((max x3 x7), (x4 + 1))
 else
  chk (I64 (x3 + 1)) <|
  some (x3 + 1)
def lR (A9 : PD → Option Int) (d : PD) (go : (Int × Int) → Option Int) (v : Int × Int) : Option Int :=
 match v with
 | (x3, x4) => O8 A9 d go x3 x4
def dX (A9 : PD → Option Int) (d : PD) : Option Int :=
 itr (lR A9 d) LF (0, 0)
def A9 : Nat → PD → Option Int
 | 0, _ => none
 | n + 1, d => dX (A9 n) d
def cB (b : Int) : Option Bool :=
 if b ≥ 48 then
  some (decide (b ≤ 57))
 else
  some false
def Z4 (b : Int) (go4 : Int → Option Bool) (i3 : Int) : Option Bool :=
 if i3 < (([33, 63, 42, 60, 62, 61, 47, 43, 45, 46, 95] : LB).length : Int) then
  bnd (nth ([33, 63, 42, 60, 62, 61, 47, 43, 45, 46, 95] : LB) i3) fun x5 =>
  if (x5.toNat : Int) = b then
   some true
  else
   chk (I64 (i3 + 1)) <|
   go4 (i3 + 1)
 else
  some false
def pB (b : Int) (go : Int → Option Bool) (v : Int) : Option Bool :=
 match v with
 | i3 => Z4 b go i3
def T9 (b : Int) (x2 : Bool) : Option Bool :=
 if x2 = true then
  some true
 else
  itr (pB b) LF 0
def rL (b : Int) : Option Bool :=
 if b ≥ 97 then
  if b ≤ 122 then
   T9 b true
  else
   bnd (cB b) fun x2 =>
   T9 b x2
 else
  bnd (cB b) fun x2 =>
  T9 b x2
def L6 (s : LB) (go4 : Int → Option Bool) (i3 : Int) : Option Bool :=
 if i3 < (s.length : Int) then
  bnd (nth s i3) fun x5 =>
  bnd (rL (x5.toNat : Int)) fun x6 =>
  if x6 = true then
   chk (I64 (i3 + 1)) <|
   go4 (i3 + 1)
  else
   some false
 else
  some true
def jN (s : LB) (go : Int → Option Bool) (v : Int) : Option Bool :=
 match v with
 | i3 => L6 s go i3
def E6 (s : LB) (x2 : Bool) : Option Bool :=
 if x2 = true then
  some false
 else
  itr (jN s) LF 0
def gX (s : LB) : Option Bool :=
 bnd (aR (s.length : Int) 1 16) fun x2 =>
 if x2 = true then
  bnd (nth s 0) fun x3 =>
  bnd (cB (x3.toNat : Int)) fun x4 =>
  if x4 = true then
   E6 s true
  else
   bnd (nth s 0) fun x5 =>
   if (x5.toNat : Int) = 45 then
    if (s.length : Int) > 1 then
     bnd (nth s 1) fun x6 =>
     bnd (cB (x6.toNat : Int)) fun x7 =>
     E6 s x7
    else
     E6 s false
   else
    E6 s false
 else
  E6 s true
def L7 (s : LB) (go3 : Int → Option Bool) (i2 : Int) : Option Bool :=
 if i2 < (s.length : Int) then
  bnd (nth s i2) fun x4 =>
  if (x4.toNat : Int) < 32 then
   some false
  else
   bnd (nth s i2) fun x5 =>
   if (x5.toNat : Int) > 126 then
    some false
   else
    bnd (nth s i2) fun x6 =>
    if (x6.toNat : Int) = 34 then
     some false
    else
     chk (I64 (i2 + 1)) <|
     go3 (i2 + 1)
 else
  some (decide ((s.length : Int) ≤ 20))
def rO (s : LB) (go : Int → Option Bool) (v : Int) : Option Bool :=
 match v with
 | i2 => L7 s go i2
def gZ (s : LB) : Option Bool :=
 itr (rO s) LF 0
def rN (kind : Int) (number : Int) (text : LB) (items : Int) : Option Bool :=
 if kind = 0 then
  if number = 0 then
   some (decide (text = ([] : LB)))
  else
   some false
 else
  if kind = 1 then
   if number = 0 then
    bnd (gX text) fun x5 =>
    if x5 = true then
     some (decide (items = 0))
    else
     some false
   else
    some false
  else
   if kind = 2 then
    bnd (aR number (-999999999) 999999999) fun x5 =>
    if x5 = true then
     if text = ([] : LB) then
      some (decide (items = 0))
     else
      some false
    else
     some false
   else
    if kind = 3 then
     bnd (aR number 0 1) fun x5 =>
     if x5 = true then
      if text = ([] : LB) then
       some (decide (items = 0))
      else
       some false
     else
      some false
    else
     if kind = 4 then
      if number = 0 then
       bnd (gZ text) fun x5 =>
       if x5 = true then
        some (decide (items = 0))
       else
        some false
      else
       some false
     else
      some false
def O9 (B0 : PD → Option Bool) (d : PD) (go4 : Int → Option Bool) (x3 : Int) : Option Bool :=
 if x3 < (d.items.length : Int) then
  bnd (nth d.items x3) fun x5 =>
  bnd (B0 x5) fun x6 =>
  if x6 = true then
   chk (I64 (x3 + 1)) <|
   go4 (x3 + 1)
  else
   some false
 else
  bnd (rN d.kind d.number d.text (d.items.length : Int)) fun x5 =>
  some x5
def lU (B0 : PD → Option Bool) (d : PD) (go : Int → Option Bool) (v : Int) : Option Bool :=
 match v with
 | x3 => O9 B0 d go x3
def dZ (B0 : PD → Option Bool) (d : PD) : Option Bool :=
 itr (lU B0 d) LF 0
def B0 : Nat → PD → Option Bool
 | 0, _ => none
 | n + 1, d => dZ (B0 n) d
def lS (d : PD) : Option Bool :=
 bnd (D8 RF d 600) fun x2 =>
 if x2.1 = true then
  bnd (A9 RF d) fun x3 =>
  if x3 ≤ 20 then
   bnd (B0 RF d) fun x4 =>
   some x4
  else
   some false
 else
  some false
def D4 (c : PC) (x2 : Bool) : Option Bool :=
 if x2 = true then
  some false
 else
  if c.kind = 1 then
   if (c.kids.length : Int) = 0 then
    if (c.params.length : Int) = 0 then
     bnd (lS c.datum) fun x3 =>
     some x3
    else
     some false
   else
    some false
  else
   if c.kind = 2 then
    if (c.kids.length : Int) = 0 then
     some (decide ((c.params.length : Int) = 0))
    else
     some false
   else
    if c.kind = 3 then
     if (c.kids.length : Int) = 0 then
      if (c.params.length : Int) = 0 then
       bnd (m9) fun x3 =>
       chk (I64 ((x3.length : Int) - 1)) <|
       bnd (aR c.number 0 ((x3.length : Int) - 1)) fun x4 =>
       some x4
      else
       some false
     else
      some false
    else
     if c.kind = 4 then
      if (c.kids.length : Int) = 1 then
       some (decide ((c.params.length : Int) = 0))
      else
       some false
     else
      if c.kind = 5 then
       if (c.kids.length : Int) = 1 then
        some (decide ((c.params.length : Int) ≤ 8))
       else
        some false
      else
       if c.kind = 6 then
        bnd (aR (c.kids.length : Int) 1 9) fun x3 =>
        if x3 = true then
         some (decide ((c.params.length : Int) = 0))
        else
         some false
       else
        if c.kind = 7 then
         if (c.kids.length : Int) = 3 then
          some (decide ((c.params.length : Int) = 0))
         else
          some false
        else
         if c.kind = 8 then
          bnd (aR (c.kids.length : Int) 2 60) fun x3 =>
          if x3 = true then
           some (decide ((c.params.length : Int) = 0))
          else
           some false
         else
          if c.kind = 9 then
           bnd (aR (c.kids.length : Int) 1 60) fun x3 =>
           if x3 = true then
            bnd (aR (c.params.length : Int) 1 60) fun x4 =>
            some x4
           else
            some false
          else
           if c.kind = 10 then
            if (c.kids.length : Int) = 1 then
             some (decide ((c.params.length : Int) = 0))
            else
             some false
           else
            if c.kind = 11 then
             if (c.kids.length : Int) = 1 then
              some (decide ((c.params.length : Int) = 1))
             else
              some false
            else
             some false
def mC (c : PC) : Option Bool :=
 if c.kind = 1 then
  if c.number = 0 then
   D4 c false
  else
   bnd (cD c) fun x2 =>
   if x2 = true then
    D4 c false
   else
    D4 c (!decide (c.kind = 3))
 else
  bnd (w5 RF c.datum (PD.mk 0 0 ([] : LB) [])) fun x2 =>
  if x2 = true then
   if c.number = 0 then
    D4 c false
   else
    bnd (cD c) fun x3 =>
    if x3 = true then
     D4 c false
    else
     D4 c (!decide (c.kind = 3))
  else
   D4 c true
def U6 (x3 : Int) (go4 : Int → Option Bool) (x6 : Bool) : Option Bool :=
 if x6 = true then
  some false
 else
  chk (I64 (x3 + 1)) <|
  go4 (x3 + 1)
def P4 (B1 : PC → Option Bool) (c : PC) (go4 : Int → Option Bool) (x3 : Int) : Option Bool :=
 if x3 < (c.kids.length : Int) then
  bnd (nth c.kids x3) fun x5 =>
  bnd (B1 x5) fun x6 =>
  if x6 = true then
   if c.kind = 8 then
    U6 x3 go4 (decide (x5.kind = 8))
   else
    U6 x3 go4 false
  else
   U6 x3 go4 true
 else
  bnd (mC c) fun x5 =>
  some x5
def mB (B1 : PC → Option Bool) (c : PC) (go : Int → Option Bool) (v : Int) : Option Bool :=
 match v with
 | x3 => P4 B1 c go x3
def eF (B1 : PC → Option Bool) (c : PC) : Option Bool :=
 itr (mB B1 c) LF 0
def B1 : Nat → PC → Option Bool
 | 0, _ => none
 | n + 1, c => eF (B1 n) c
def L8 (list : LI) (go3 : Int → Option Bool) (x2 : Int) : Option Bool :=
 if x2 < (list.length : Int) then
  bnd (nth list x2) fun x4 =>
  bnd (aR x4 0 99999) fun x5 =>
  if x5 = true then
   chk (0 ≤ x2 ∧ x2 ≤ list.length) <|
   bnd (F8 (list.take x2.toNat) x4) fun x6 =>
   if x6 = true then
    some false
   else
    chk (I64 (x2 + 1)) <|
    go3 (x2 + 1)
  else
   some false
 else
  some true
def jT (list : LI) (go : Int → Option Bool) (v : Int) : Option Bool :=
 match v with
 | x2 => L8 list go x2
def hX (list : LI) : Option Bool :=
 itr (jT list) LF 0
def jP (B6 : PC → LI → Option (LI)) (c : PC) (go6 : (Int × LI) → Option (LI)) (x4 : Int) (out5 : LI) : Option (LI) :=
 if x4 < (c.kids.length : Int) then
  bnd (nth c.kids x4) fun x7 =>
  bnd (B6 x7 out5) fun x8 =>
  chk (I64 (x4 + 1)) <|
  go6 ((x4 + 1), x8)
 else
  some out5
def lV (B6 : PC → LI → Option (LI)) (c : PC) (go : (Int × LI) → Option (LI)) (v : Int × LI) : Option (LI) :=
 match v with
 | (x4, out5) => jP B6 c go x4 out5
def eC (B6 : PC → LI → Option (LI)) (c : PC) (out : LI) : Option (LI) :=
 chk ((out.length + c.params.length) * 8 ≤ 140737488355328) <|
 itr (lV B6 c) LF (0, (out ++ c.params))
def B6 : Nat → PC → LI → Option (LI)
 | 0, _, _ => none
 | n + 1, c, out => eC (B6 n) c out
def S8 (globals : LI) (x9 : LI) (go11 : Int → Option Bool) (x10 : Int) : Option Bool :=
 if x10 < (x9.length : Int) then
  bnd (nth x9 x10) fun x12 =>
  bnd (F8 globals x12) fun x13 =>
  if x13 = true then
   chk (I64 (x10 + 1)) <|
   go11 (x10 + 1)
  else
   some false
 else
  some true
def jM (globals : LI) (x9 : LI) (go : Int → Option Bool) (v : Int) : Option Bool :=
 match v with
 | x10 => S8 globals x9 go x10
def vO (c : PC) (globals : LI) : Option Bool :=
 bnd (hU c) fun x3 =>
 if x3 = true then
  bnd (r7 RF c) fun x4 =>
  if x4 > 150 then
   some false
  else
   bnd (B1 RF c) fun x5 =>
   if x5 = true then
    bnd (cQ globals) fun x6 =>
    bnd (B6 RF c []) fun x7 =>
    chk ((x6.length + x7.length) * 8 ≤ 140737488355328) <|
    bnd (hX (x6 ++ x7)) fun x8 =>
    if x8 = true then
     bnd (J4 c) fun x9 =>
     itr (jM globals x9) LF 0
    else
     some false
   else
    some false
 else
  some false
def mE (c : PC) : Option Bool :=
 bnd (hU c) fun x2 =>
 if x2 = true then
  bnd (J4 c) fun x3 =>
  bnd (vO c x3) fun x4 =>
  some x4
 else
  some false
def Z6 (i6 : Int) (go8 : (Int × LI) → Option (LI)) (out10 : LI) : Option (LI) :=
 chk (I64 (i6 + 1)) <|
 go8 ((i6 + 1), out10)
def P3 (m6 : PC → LI → Option (LI)) (c : PC) (go12 : (Int × LI) → Option (LI)) (x10 : Int) (out11 : LI) : Option (LI) :=
 if x10 < (c.kids.length : Int) then
  bnd (nth c.kids x10) fun x13 =>
  bnd (m6 x13 out11) fun x14 =>
  chk (I64 (x10 + 1)) <|
  go12 ((x10 + 1), x14)
 else
  some out11
def fN (m6 : PC → LI → Option (LI)) (c : PC) (go : (Int × LI) → Option (LI)) (v : Int × LI) : Option (LI) :=
 match v with
 | (x10, out11) => P3 m6 c go x10 out11
def N5 (m6 : PC → LI → Option (LI)) (c : PC) (i6 : Int) (out7 : LI) (go8 : (Int × LI) → Option (LI)) (x9 : Bool) : Option (LI) :=
 if x9 = true then
  bnd (nth c.params i6) fun x10 =>
  bnd (F8 out7 x10) fun x11 =>
  if x11 = true then
   Z6 i6 go8 out7
  else
   bnd (nth c.params i6) fun x12 =>
   chk ((out7.length + ([x12] : LI).length) * 8 ≤ 140737488355328) <|
   Z6 i6 go8 (out7 ++ ([x12] : LI))
 else
  itr (fN m6 c) LF (0, out7)
def I2 (m6 : PC → LI → Option (LI)) (c : PC) (go8 : (Int × LI) → Option (LI)) (i6 : Int) (out7 : LI) : Option (LI) :=
 if i6 < (c.params.length : Int) then
  N5 m6 c i6 out7 go8 (decide (c.kind = 9))
 else
  N5 m6 c i6 out7 go8 false
def cC (m6 : PC → LI → Option (LI)) (c : PC) (go : (Int × LI) → Option (LI)) (v : Int × LI) : Option (LI) :=
 match v with
 | (i6, out7) => I2 m6 c go i6 out7
def U0 (m6 : PC → LI → Option (LI)) (c : PC) (out5 : LI) : Option (LI) :=
 itr (cC m6 c) LF (0, out5)
def Z5 (m6 : PC → LI → Option (LI)) (c : PC) (out : LI) (x4 : Bool) : Option (LI) :=
 if x4 = true then
  chk ((out.length + ([c.number] : LI).length) * 8 ≤ 140737488355328) <|
  U0 m6 c (out ++ ([c.number] : LI))
 else
  U0 m6 c out
def eD (m6 : PC → LI → Option (LI)) (c : PC) (out : LI) : Option (LI) :=
 if c.kind = 4 then
  bnd (F8 out c.number) fun x4 =>
  Z5 m6 c out (!x4)
 else
  Z5 m6 c out false
def m6 : Nat → PC → LI → Option (LI)
 | 0, _, _ => none
 | n + 1, c, out => eD (m6 n) c out
def Q2 (c : PC) : Option (LI) :=
 bnd (m6 RF c ([] : LI)) fun x2 =>
 some x2
def rR (c : PC) : Option (LI) :=
 bnd (Q2 c) fun x2 =>
 bnd (J4 c) fun x3 =>
 chk ((x2.length + x3.length) * 8 ≤ 140737488355328) <|
 some (x2 ++ x3)
def fR (c : PC) : Option Bool :=
 if c.kind = 1 then
  some (decide ((c.datum.items.length : Int) = 0))
 else
  some false
def jU (A0 : PD → List PPair → Option (PVal × List PPair)) (d : PD) (go7 : (Int × List PPair × PVal) → Option (PVal × List PPair)) (i4 : Int) (pairs5 : List PPair) (tail6 : PVal) : Option (PVal × List PPair) :=
 if i4 ≥ 0 then
  bnd (nth d.items i4) fun x8 =>
  bnd (A0 x8 pairs5) fun x9 =>
  chk ((x9.2.length + ([(PPair.mk x9.1 tail6)] : List PPair).length) * 64 ≤ 140737488355328) <|
  chk (I64 (((x9.2 ++ ([(PPair.mk x9.1 tail6)] : List PPair)).length : Int) - 1)) <|
  chk (I64 (i4 - 1)) <|
  go7 ((i4 - 1), (x9.2 ++ ([(PPair.mk x9.1 tail6)] : List PPair)), (PVal.mk 7 (((x9.2 ++ ([(PPair.mk x9.1 tail6)] : List PPair)).length : Int) - 1) ([] : LB)))
 else
  some (tail6, pairs5)
def fQ (A0 : PD → List PPair → Option (PVal × List PPair)) (d : PD) (go : (Int × List PPair × PVal) → Option (PVal × List PPair)) (v : Int × List PPair × PVal) : Option (PVal × List PPair) :=
 match v with
 | (i4, pairs5, tail6) => jU A0 d go i4 pairs5 tail6
def eG (A0 : PD → List PPair → Option (PVal × List PPair)) (d : PD) (pairs : List PPair) : Option (PVal × List PPair) :=
 if d.kind = 1 then
  some ((PVal.mk 4 0 d.text), pairs)
 else
  if d.kind = 2 then
   some ((PVal.mk 3 d.number ([] : LB)), pairs)
  else
   if d.kind = 3 then
    some ((PVal.mk 2 d.number ([] : LB)), pairs)
   else
    if d.kind = 4 then
     some ((PVal.mk 5 0 d.text), pairs)
    else
     chk (I64 ((d.items.length : Int) - 1)) <|
     itr (fQ A0 d) LF (((d.items.length : Int) - 1), pairs, (PVal.mk 1 0 ([] : LB)))
def A0 : Nat → PD → List PPair → Option (PVal × List PPair)
 | 0, _, _ => none
 | n + 1, d, pairs => eG (A0 n) d pairs
def lQ (primitive : Int) : Option Int :=
 bnd (m9) fun x2 =>
 chk (I64 ((x2.length : Int) - 1)) <|
 bnd (aR primitive 0 ((x2.length : Int) - 1)) fun x3 =>
 if x3 = true then
  bnd (nth ([2, 2, 2, 2, 2, 2, 1, 1, 1, 1, 1, 2, 1, 1] : LI) primitive) fun x4 =>
  some x4
 else
  some (-1)
def hY (x_1 : PVal) : Option Bool :=
 if x_1.kind = 2 then
  some (decide (x_1.number = 0))
 else
  some false
def bP (b : Bool) : Option PVal :=
 if b = true then
  some (PVal.mk 2 1 ([] : LB))
 else
  some (PVal.mk 2 0 ([] : LB))
def bE (p : Int) (a : Int) (b : Int) : Option (PVal × LB) :=
 if p = 0 then
  chk (I64 (a + b)) <|
  bnd (aR (a + b) (-999999999) 999999999) fun x4 =>
  if x4 = true then
   some ((PVal.mk 3 (a + b) ([] : LB)), ([] : LB))
  else
   some ((PVal.mk 0 0 ([] : LB)), ([110, 117, 109, 98, 101, 114, 32, 116, 111, 111, 32, 108, 97, 114, 103, 101] : LB))
 else
  if p = 1 then
   chk (I64 (a - b)) <|
   bnd (aR (a - b) (-999999999) 999999999) fun x4 =>
   if x4 = true then
    some ((PVal.mk 3 (a - b) ([] : LB)), ([] : LB))
   else
    some ((PVal.mk 0 0 ([] : LB)), ([110, 117, 109, 98, 101, 114, 32, 116, 111, 111, 32, 108, 97, 114, 103, 101] : LB))
  else
   if p = 2 then
    chk (I64 (a * b)) <|
    bnd (aR (a * b) (-999999999) 999999999) fun x4 =>
    if x4 = true then
     some ((PVal.mk 3 (a * b) ([] : LB)), ([] : LB))
    else
     some ((PVal.mk 0 0 ([] : LB)), ([110, 117, 109, 98, 101, 114, 32, 116, 111, 111, 32, 108, 97, 114, 103, 101] : LB))
   else
    if p = 3 then
     bnd (bP (decide (a = b))) fun x4 =>
     some (x4, ([] : LB))
    else
     bnd (bP (decide (a < b))) fun x4 =>
     some (x4, ([] : LB))
def F3 (p : Int) (args : List PVal) (pairs : List PPair) (x5 : LB) (x6 : PVal) (x8 : Bool) : Option (PVal × LB) :=
 if x8 = true then
  if x6.kind = 7 then
   if p = 6 then
    bnd (nth pairs x6.number) fun x9 =>
    some (x9.h, ([] : LB))
   else
    bnd (nth pairs x6.number) fun x9 =>
    some (x9.t, ([] : LB))
  else
   some ((PVal.mk 0 0 ([] : LB)), (x5 ++ ([58, 32, 98, 97, 100, 32, 97, 114, 103, 117, 109, 101, 110, 116] : LB)))
 else
  if p = 8 then
   bnd (bP (decide (x6.kind = 1))) fun x9 =>
   some (x9, ([] : LB))
  else
   if p = 9 then
    bnd (bP (decide (x6.kind = 7))) fun x9 =>
    some (x9, ([] : LB))
   else
    if p = 10 then
     bnd (bP (decide (x6.kind = 3))) fun x9 =>
     some (x9, ([] : LB))
    else
     if p = 11 then
      bnd (nth args 1) fun x9 =>
      bnd (bP (decide (x6 = x9))) fun x10 =>
      some (x10, ([] : LB))
     else
      bnd (hY x6) fun x9 =>
      bnd (bP x9) fun x10 =>
      some (x10, ([] : LB))
def s6 (p : Int) (args : List PVal) (pairs : List PPair) (x5 : LB) (x6 : PVal) (x7 : Bool) : Option (PVal × LB) :=
 if x7 = true then
  if x6.kind = 3 then
   bnd (nth args 1) fun x8 =>
   if x8.kind = 3 then
    bnd (nth args 1) fun x9 =>
    bnd (bE p x6.number x9.number) fun x10 =>
    some (x10.1, x10.2)
   else
    some ((PVal.mk 0 0 ([] : LB)), (x5 ++ ([58, 32, 98, 97, 100, 32, 97, 114, 103, 117, 109, 101, 110, 116] : LB)))
  else
   some ((PVal.mk 0 0 ([] : LB)), (x5 ++ ([58, 32, 98, 97, 100, 32, 97, 114, 103, 117, 109, 101, 110, 116] : LB)))
 else
  if p = 6 then
   F3 p args pairs x5 x6 true
  else
   F3 p args pairs x5 x6 (decide (p = 7))
def t7 (p : Int) (args : List PVal) (pairs : List PPair) : Option (PVal × LB) :=
 bnd (m9) fun x4 =>
 bnd (nth x4 p) fun x5 =>
 chk (x5.length + ([58, 32, 98, 97, 100, 32, 97, 114, 103, 117, 109, 101, 110, 116] : LB).length ≤ 9223372036854775807) <|
 bnd (nth args 0) fun x6 =>
 if p = 0 then
  s6 p args pairs x5 x6 true
 else
  if p = 1 then
   s6 p args pairs x5 x6 true
  else
   if p = 2 then
    s6 p args pairs x5 x6 true
   else
    if p = 3 then
     s6 p args pairs x5 x6 true
    else
     s6 p args pairs x5 x6 (decide (p = 4))
def hZ (x_1 : PVal) : Option (PD × Bool) :=
 if x_1.kind = 1 then
  some ((PD.mk 0 0 ([] : LB) []), true)
 else
  if x_1.kind = 2 then
   some ((PD.mk 3 x_1.number ([] : LB) []), true)
  else
   if x_1.kind = 3 then
    some ((PD.mk 2 x_1.number ([] : LB) []), true)
   else
    some ((PD.mk 0 0 ([] : LB) []), false)
def cE (c : PC) (x3 : PC) (go6 : (Int × List PVal) → Option (PC × Bool)) (x4 : Int) (args5 : List PVal) : Option (PC × Bool) :=
 if x4 < ((c.kids.drop (1 : Int).toNat).length : Int) then
  bnd (nth (c.kids.drop (1 : Int).toNat) x4) fun x7 =>
  bnd (fR x7) fun x8 =>
  if x8 = true then
   bnd (A0 RF x7.datum []) fun x9 =>
   chk ((args5.length + ([x9.1] : List PVal).length) * 32 ≤ 140737488355328) <|
   chk (I64 (x4 + 1)) <|
   go6 ((x4 + 1), (args5 ++ ([x9.1] : List PVal)))
  else
   some ((PC.mk 0 0 [] (PD.mk 0 0 ([] : LB) []) []), false)
 else
  if x3.number = 5 then
   some ((PC.mk 0 0 [] (PD.mk 0 0 ([] : LB) []) []), false)
  else
   if x3.number = 13 then
    some ((PC.mk 0 0 [] (PD.mk 0 0 ([] : LB) []) []), false)
   else
    bnd (lQ x3.number) fun x7 =>
    if (args5.length : Int) = x7 then
     bnd (t7 x3.number args5 []) fun x8 =>
     bnd (hZ x8.1) fun x9 =>
     if x8.2 = ([] : LB) then
      if x9.2 = true then
       some ((PC.mk 1 0 [] x9.1 []), true)
      else
       some ((PC.mk 0 0 [] (PD.mk 0 0 ([] : LB) []) []), false)
     else
      some ((PC.mk 0 0 [] (PD.mk 0 0 ([] : LB) []) []), false)
    else
     some ((PC.mk 0 0 [] (PD.mk 0 0 ([] : LB) []) []), false)
def pP (c : PC) (x3 : PC) (go : (Int × List PVal) → Option (PC × Bool)) (v : Int × List PVal) : Option (PC × Bool) :=
 match v with
 | (x4, args5) => cE c x3 go x4 args5
def rS (c : PC) : Option (PC × Bool) :=
 if c.kind = 6 then
  bnd (nth c.kids 0) fun x2 =>
  if x2.kind = 3 then
   bnd (nth c.kids 0) fun x3 =>
   chk (0 ≤ (1 : Int) ∧ (1 : Int) ≤ c.kids.length) <|
   itr (pP c x3) LF (0, ([] : List PVal))
  else
   some ((PC.mk 0 0 [] (PD.mk 0 0 ([] : LB) []) []), false)
 else
  some ((PC.mk 0 0 [] (PD.mk 0 0 ([] : LB) []) []), false)
def S9 (C4 : PD → Option PD) (d : PD) (go5 : (Int × List PD) → Option PD) (x3 : Int) (x4 : List PD) : Option PD :=
 if x3 < (d.items.length : Int) then
  bnd (nth d.items x3) fun x6 =>
  bnd (C4 x6) fun x7 =>
  chk ((x4.length + ([x7] : List PD).length) * 56 ≤ 140737488355328) <|
  chk (I64 (x3 + 1)) <|
  go5 ((x3 + 1), (x4 ++ ([x7] : List PD)))
 else
  some (PD.mk d.kind d.number d.text x4)
def oZ (C4 : PD → Option PD) (d : PD) (go : (Int × List PD) → Option PD) (v : Int × List PD) : Option PD :=
 match v with
 | (x3, x4) => S9 C4 d go x3 x4
def gY (C4 : PD → Option PD) (d : PD) : Option PD :=
 itr (oZ C4 d) LF (0, [])
def C4 : Nat → PD → Option PD
 | 0, _ => none
 | n + 1, d => gY (C4 n) d
def U1 (z5 : PC → Option PC) (c : PC) (x3 : LI) (x4 : PD) (go7 : (Int × List PC) → Option PC) (x5 : Int) (x6 : List PC) : Option PC :=
 if x5 < (c.kids.length : Int) then
  bnd (nth c.kids x5) fun x8 =>
  bnd (z5 x8) fun x9 =>
  chk ((x6.length + ([x9] : List PC).length) * 120 ≤ 140737488355328) <|
  chk (I64 (x5 + 1)) <|
  go7 ((x5 + 1), (x6 ++ ([x9] : List PC)))
 else
  some (PC.mk c.kind c.number x3 x4 x6)
def pF (z5 : PC → Option PC) (c : PC) (x3 : LI) (x4 : PD) (go : (Int × List PC) → Option PC) (v : Int × List PC) : Option PC :=
 match v with
 | (x5, x6) => U1 z5 c x3 x4 go x5 x6
def hC (z5 : PC → Option PC) (c : PC) : Option PC :=
 bnd (cQ c.params) fun x3 =>
 bnd (C4 RF c.datum) fun x4 =>
 itr (pF z5 c x3 x4) LF (0, [])
def z5 : Nat → PC → Option PC
 | 0, _ => none
 | n + 1, c => hC (z5 n) c
def cV (c : PC) (boxed : LI) : Option Bool :=
 bnd (fR c) fun x3 =>
 if x3 = true then
  some true
 else
  if c.kind = 3 then
   some true
  else
   if c.kind = 2 then
    bnd (F8 boxed c.number) fun x4 =>
    some (!x4)
   else
    some false
def D0 (l8 : PC → Int → PC → Option PC) (c : PC) (x_1 : Int) (x_2 : PC) (x6 : PC) (go9 : (Int × List PC) → Option PC) (x7 : Int) (x8 : List PC) : Option PC :=
 if x7 < (x6.kids.length : Int) then
  bnd (nth c.kids x7) fun x10 =>
  bnd (l8 x10 x_1 x_2) fun x11 =>
  bnd (nth x8 x7) fun x12 =>
  chk (I64 (x7 + 1)) <|
  go9 ((x7 + 1), (x8.set x7.toNat x11))
 else
  some (PC.mk x6.kind x6.number x6.params x6.datum x8)
def V8 (l8 : PC → Int → PC → Option PC) (c : PC) (x_1 : Int) (x_2 : PC) (x6 : PC) (go : (Int × List PC) → Option PC) (v : Int × List PC) : Option PC :=
 match v with
 | (x7, x8) => D0 l8 c x_1 x_2 x6 go x7 x8
def I7 (l8 : PC → Int → PC → Option PC) (c : PC) (x_1 : Int) (x_2 : PC) (x5 : Bool) : Option PC :=
 if x5 = true then
  bnd (z5 RF x_2) fun x6 =>
  some x6
 else
  bnd (z5 RF c) fun x6 =>
  itr (V8 l8 c x_1 x_2 x6) LF (0, x6.kids)
def Q3 (l8 : PC → Int → PC → Option PC) (c : PC) (x_1 : Int) (x_2 : PC) : Option PC :=
 if c.kind = 2 then
  I7 l8 c x_1 x_2 (decide (c.number = x_1))
 else
  I7 l8 c x_1 x_2 false
def l8 : Nat → PC → Int → PC → Option PC
 | 0, _, _, _ => none
 | n + 1, c, x_1, x_2 => Q3 (l8 n) c x_1 x_2
def U7 (c : PC) (x5 : PC) (go12 : (Int × PC) → Option (PC × Bool)) (x10 : Int) (body11 : PC) : Option (PC × Bool) :=
 if x10 < (x5.params.length : Int) then
  bnd (nth x5.params x10) fun x13 =>
  chk (I64 (x10 + 1)) <|
  bnd (nth c.kids (x10 + 1)) fun x14 =>
  bnd (l8 RF body11 x13 x14) fun x15 =>
  chk (I64 (x10 + 1)) <|
  go12 ((x10 + 1), x15)
 else
  some (body11, true)
def jW (c : PC) (x5 : PC) (go : (Int × PC) → Option (PC × Bool)) (v : Int × PC) : Option (PC × Bool) :=
 match v with
 | (x10, body11) => U7 c x5 go x10 body11
def mF (c : PC) (boxed : LI) (x5 : PC) (go7 : Int → Option (PC × Bool)) (x6 : Int) : Option (PC × Bool) :=
 if x6 < (x5.params.length : Int) then
  bnd (nth x5.params x6) fun x8 =>
  bnd (F8 boxed x8) fun x9 =>
  if x9 = true then
   some ((PC.mk 0 0 [] (PD.mk 0 0 ([] : LB) []) []), false)
  else
   chk (I64 (x6 + 1)) <|
   bnd (nth c.kids (x6 + 1)) fun x10 =>
   bnd (cV x10 boxed) fun x11 =>
   if x11 = true then
    chk (I64 (x6 + 1)) <|
    go7 (x6 + 1)
   else
    some ((PC.mk 0 0 [] (PD.mk 0 0 ([] : LB) []) []), false)
 else
  bnd (nth x5.kids 0) fun x8 =>
  bnd (z5 RF x8) fun x9 =>
  itr (jW c x5) LF (0, x9)
def pN (c : PC) (boxed : LI) (x5 : PC) (go : Int → Option (PC × Bool)) (v : Int) : Option (PC × Bool) :=
 match v with
 | x6 => mF c boxed x5 go x6
def jV (c : PC) (boxed : LI) : Option (PC × Bool) :=
 if c.kind = 6 then
  bnd (nth c.kids 0) fun x3 =>
  if x3.kind = 5 then
   bnd (nth c.kids 0) fun x4 =>
   chk (I64 ((c.kids.length : Int) - 1)) <|
   if (x4.params.length : Int) = ((c.kids.length : Int) - 1) then
    bnd (nth c.kids 0) fun x5 =>
    itr (pN c boxed x5) LF 0
   else
    some ((PC.mk 0 0 [] (PD.mk 0 0 ([] : LB) []) []), false)
  else
   some ((PC.mk 0 0 [] (PD.mk 0 0 ([] : LB) []) []), false)
 else
  some ((PC.mk 0 0 [] (PD.mk 0 0 ([] : LB) []) []), false)
def bD (x2 : Int) (go4 : (Int × List PC) → Option PC) (out5 : List PC) : Option PC :=
 chk (I64 (x2 + 1)) <|
 go4 ((x2 + 1), out5)
def U3 (list : List PC) (go4 : (Int × List PC) → Option PC) (x2 : Int) (out3 : List PC) : Option PC :=
 if x2 < (list.length : Int) then
  bnd (nth list x2) fun x5 =>
  if x5.kind = 8 then
   chk ((out3.length + x5.kids.length) * 120 ≤ 140737488355328) <|
   bD x2 go4 (out3 ++ x5.kids)
  else
   chk ((out3.length + ([x5] : List PC).length) * 120 ≤ 140737488355328) <|
   bD x2 go4 (out3 ++ ([x5] : List PC))
 else
  if (out3.length : Int) = 1 then
   bnd (nth out3 0) fun x5 =>
   some x5
  else
   some (PC.mk 8 0 [] (PD.mk 0 0 ([] : LB) []) out3)
def pG (list : List PC) (go : (Int × List PC) → Option PC) (v : Int × List PC) : Option PC :=
 match v with
 | (x2, out3) => U3 list go x2 out3
def jR (list : List PC) : Option PC :=
 itr (pG list) LF (0, ([] : List PC))
def bF (x2 : Int) (go4 : (Int × List PC) → Option (PC × Bool)) (kids5 : List PC) : Option (PC × Bool) :=
 chk (I64 (x2 + 1)) <|
 go4 ((x2 + 1), kids5)
def U8 (x2 : Int) (kids3 : List PC) (go4 : (Int × List PC) → Option (PC × Bool)) (x5 : PC) (x6 : Bool) : Option (PC × Bool) :=
 if x6 = true then
  bnd (z5 RF x5) fun x7 =>
  chk ((kids3.length + ([x7] : List PC).length) * 120 ≤ 140737488355328) <|
  bF x2 go4 (kids3 ++ ([x7] : List PC))
 else
  bF x2 go4 kids3
def U9 (c : PC) (go4 : (Int × List PC) → Option (PC × Bool)) (x2 : Int) (kids3 : List PC) : Option (PC × Bool) :=
 if x2 < (c.kids.length : Int) then
  bnd (nth c.kids x2) fun x5 =>
  chk (I64 ((c.kids.length : Int) - 1)) <|
  if x2 = ((c.kids.length : Int) - 1) then
   U8 x2 kids3 go4 x5 true
  else
   if x5.kind = 1 then
    U8 x2 kids3 go4 x5 false
   else
    if x5.kind = 3 then
     U8 x2 kids3 go4 x5 false
    else
     U8 x2 kids3 go4 x5 (!decide (x5.kind = 5))
 else
  bnd (jR kids3) fun x5 =>
  some (x5, (decide ((kids3.length : Int) < (c.kids.length : Int))))
def pO (c : PC) (go : (Int × List PC) → Option (PC × Bool)) (v : Int × List PC) : Option (PC × Bool) :=
 match v with
 | (x2, kids3) => U9 c go x2 kids3
def fS (c : PC) : Option (PC × Bool) :=
 if c.kind = 8 then
  itr (pO c) LF (0, ([] : List PC))
 else
  some ((PC.mk 0 0 [] (PD.mk 0 0 ([] : LB) []) []), false)
def V0 (c : PC) (x5 : Bool) : Option (PC × Bool) :=
 if x5 = true then
  bnd (nth c.kids 0) fun x6 =>
  bnd (A0 RF x6.datum []) fun x7 =>
  bnd (hY x7.1) fun x8 =>
  if x8 = true then
   bnd (nth c.kids 2) fun x9 =>
   bnd (z5 RF x9) fun x10 =>
   some (x10, true)
  else
   bnd (nth c.kids 1) fun x9 =>
   bnd (z5 RF x9) fun x10 =>
   some (x10, true)
 else
  bnd (fS c) fun x6 =>
  some (x6.1, x6.2)
def rT (c : PC) (boxed : LI) : Option (PC × Bool) :=
 bnd (rS c) fun x3 =>
 if x3.2 = true then
  some (x3.1, true)
 else
  bnd (jV c boxed) fun x4 =>
  if x4.2 = true then
   some (x4.1, true)
  else
   if c.kind = 7 then
    bnd (nth c.kids 0) fun x5 =>
    bnd (fR x5) fun x6 =>
    V0 c x6
   else
    V0 c false
def Y9 (c : PC) (boxed : LI) (x_1 : Int) (x8 : Int) (out11 : Int) (out12 : Int) (out13 : LI) (out14 : Int) (out15 : Int) (out16 : LB) (out17 : List PD) (out18 : List PC) (x19 : Bool) : Option (PC × Int) :=
 if x19 = true then
  bnd (z5 RF c) fun x20 =>
  some (x20, x_1)
 else
  bnd (rT (PC.mk out11 out12 out13 (PD.mk out14 out15 out16 out17) out18) boxed) fun x20 =>
  if x20.2 = true then
   chk (I64 (x8 + 1)) <|
   some (x20.1, (x8 + 1))
  else
   some ((PC.mk out11 out12 out13 (PD.mk out14 out15 out16 out17) out18), x8)
def bG (c : PC) (boxed : LI) (x_1 : Int) (x8 : Int) (out11 : Int) (out12 : Int) (out13 : LI) (out14 : Int) (out15 : Int) (out16 : LB) (out17 : List PD) (out18 : List PC) : Option (PC × Int) :=
 if out11 = 8 then
  Y9 c boxed x_1 x8 out11 out12 out13 out14 out15 out16 out17 out18 (decide ((out18.length : Int) > 60))
 else
  Y9 c boxed x_1 x8 out11 out12 out13 out14 out15 out16 out17 out18 false
def cF (E7 : PC → LI → Int → Option (PC × Int)) (c : PC) (boxed : LI) (x_1 : Int) (x5 : LI) (x6 : PD) (go10 : (Int × Int × List PC) → Option (PC × Int)) (x7 : Int) (x8 : Int) (x9 : List PC) : Option (PC × Int) :=
 if x7 < (c.kids.length : Int) then
  bnd (nth c.kids x7) fun x11 =>
  bnd (E7 x11 boxed x8) fun x12 =>
  chk ((x9.length + ([x12.1] : List PC).length) * 120 ≤ 140737488355328) <|
  chk (I64 (x7 + 1)) <|
  go10 ((x7 + 1), x12.2, (x9 ++ ([x12.1] : List PC)))
 else
  if c.kind = 8 then
   bnd (jR x9) fun x11 =>
   bG c boxed x_1 x8 x11.kind x11.number x11.params x11.datum.kind x11.datum.number x11.datum.text x11.datum.items x11.kids
  else
   bG c boxed x_1 x8 c.kind c.number x5 x6.kind x6.number x6.text x6.items x9
def pQ (E7 : PC → LI → Int → Option (PC × Int)) (c : PC) (boxed : LI) (x_1 : Int) (x5 : LI) (x6 : PD) (go : (Int × Int × List PC) → Option (PC × Int)) (v : Int × Int × List PC) : Option (PC × Int) :=
 match v with
 | (x7, x8, x9) => cF E7 c boxed x_1 x5 x6 go x7 x8 x9
def iA (E7 : PC → LI → Int → Option (PC × Int)) (c : PC) (boxed : LI) (x_1 : Int) : Option (PC × Int) :=
 bnd (cQ c.params) fun x5 =>
 bnd (C4 RF c.datum) fun x6 =>
 itr (pQ E7 c boxed x_1 x5 x6) LF (0, x_1, [])
def E7 : Nat → PC → LI → Int → Option (PC × Int)
 | 0, _, _, _ => none
 | n + 1, c, boxed, x_1 => iA (E7 n) c boxed x_1
end Go.Abs

namespace Go.Abs
set_option linter.unusedVariables false
def X0 (c : PC) : Option (PC × Int) :=
 bnd (mE c) fun x2 =>
 if x2 = true then
  bnd (rR c) fun x3 =>
  bnd (E7 RF c x3 0) fun x4 =>
  some (x4.1, x4.2)
 else
  some ((PC.mk 0 0 [] (PD.mk 0 0 ([] : LB) []) []), 0)
end Go.Abs

namespace Go.Abs
set_option linter.unusedVariables false
def sD (a : LI) (left : Int) : Option Int :=
 chk (I64 (left - (a.length : Int))) <|
 if (left - (a.length : Int)) < 0 then
  some (-1)
 else
  some (left - (a.length : Int))
def eU (v8 : PD → Int → Option Int) (A4 : List PD → Int → Option Int) (a : PD) (left : Int) : Option Int :=
 chk (I64 (left - (a.text.length : Int))) <|
 if (left - (a.text.length : Int)) < 0 then
  some (-1)
 else
  bnd (A4 a.items (left - (a.text.length : Int))) fun x5 =>
  if x5 < 0 then
   some (-1)
  else
   some x5
def gJ (v8 : PD → Int → Option Int) (a : List PD) (go7 : (Int × Int) → Option Int) (left5 : Int) (i6 : Int) : Option Int :=
 if i6 < (a.length : Int) then
  bnd (nth a i6) fun x8 =>
  bnd (v8 x8 left5) fun x9 =>
  if x9 < 0 then
   some (-1)
  else
   chk (I64 (i6 + 1)) <|
   go7 (x9, (i6 + 1))
 else
  some left5
def kN (v8 : PD → Int → Option Int) (a : List PD) (go : (Int × Int) → Option Int) (v : Int × Int) : Option Int :=
 match v with
 | (left5, i6) => gJ v8 a go left5 i6
def cK (v8 : PD → Int → Option Int) (A4 : List PD → Int → Option Int) (a : List PD) (left : Int) : Option Int :=
 chk (I64 (left - (a.length : Int))) <|
 if (left - (a.length : Int)) < 0 then
  some (-1)
 else
  itr (kN v8 a) LF ((left - (a.length : Int)), 0)
mutual
def v8 : Nat → PD → Int → Option Int
 | 0, _, _ => none
 | n + 1, a, left => eU (v8 n) (A4 n) a left
def A4 : Nat → List PD → Int → Option Int
 | 0, _, _ => none
 | n + 1, a, left => cK (v8 n) (A4 n) a left
end
def iG (z6 : PC → Int → Option Int) (D2 : List PC → Int → Option Int) (a : PC) (left : Int) : Option Int :=
 bnd (sD a.params left) fun x5 =>
 if x5 < 0 then
  some (-1)
 else
  bnd (v8 RF a.datum x5) fun x6 =>
  if x6 < 0 then
   some (-1)
  else
   bnd (D2 a.kids x6) fun x7 =>
   if x7 < 0 then
    some (-1)
   else
    some x7
def kM (z6 : PC → Int → Option Int) (a : List PC) (go7 : (Int × Int) → Option Int) (left5 : Int) (i6 : Int) : Option Int :=
 if i6 < (a.length : Int) then
  bnd (nth a i6) fun x8 =>
  bnd (z6 x8 left5) fun x9 =>
  if x9 < 0 then
   some (-1)
  else
   chk (I64 (i6 + 1)) <|
   go7 (x9, (i6 + 1))
 else
  some left5
def mN (z6 : PC → Int → Option Int) (a : List PC) (go : (Int × Int) → Option Int) (v : Int × Int) : Option Int :=
 match v with
 | (left5, i6) => kM z6 a go left5 i6
def eS (z6 : PC → Int → Option Int) (D2 : List PC → Int → Option Int) (a : List PC) (left : Int) : Option Int :=
 chk (I64 (left - (a.length : Int))) <|
 if (left - (a.length : Int)) < 0 then
  some (-1)
 else
  itr (mN z6 a) LF ((left - (a.length : Int)), 0)
mutual
def z6 : Nat → PC → Int → Option Int
 | 0, _, _ => none
 | n + 1, a, left => iG (z6 n) (D2 n) a left
def D2 : Nat → List PC → Int → Option Int
 | 0, _, _ => none
 | n + 1, a, left => eS (z6 n) (D2 n) a left
end
def mS (a : LI) (go4 : (Int × LI) → Option (LI)) (i2 : Int) (out3 : LI) : Option (LI) :=
 if i2 < (a.length : Int) then
  bnd (nth a i2) fun x5 =>
  bnd (nth out3 i2) fun x6 =>
  chk (I64 (i2 + 1)) <|
  go4 ((i2 + 1), (out3.set i2.toNat x5))
 else
  some out3
def pW (a : LI) (go : (Int × LI) → Option (LI)) (v : Int × LI) : Option (LI) :=
 match v with
 | (i2, out3) => mS a go i2 out3
def vQ (a : LI) : Option (LI) :=
 chk (0 ≤ (a.length : Int) ∧ (8 : Nat) * (a.length : Int) ≤ 281474976710656 ∧ (a.length : Int) ≤ 281474976710656) <|
 itr (pW a) LF (0, (List.replicate (a.length : Int).toNat (0 : Int)))
def eW (t9 : PD → Option PD) (A5 : List PD → Option (List PD)) (a : PD) : Option PD :=
 bnd (A5 a.items) fun x4 =>
 some (PD.mk a.kind a.number a.text x4)
def gK (t9 : PD → Option PD) (a : List PD) (go6 : (Int × List PD) → Option (List PD)) (i4 : Int) (out5 : List PD) : Option (List PD) :=
 if i4 < (a.length : Int) then
  bnd (nth a i4) fun x7 =>
  bnd (t9 x7) fun x8 =>
  bnd (nth out5 i4) fun x9 =>
  chk (I64 (i4 + 1)) <|
  go6 ((i4 + 1), (out5.set i4.toNat x8))
 else
  some out5
def kP (t9 : PD → Option PD) (a : List PD) (go : (Int × List PD) → Option (List PD)) (v : Int × List PD) : Option (List PD) :=
 match v with
 | (i4, out5) => gK t9 a go i4 out5
def cL (t9 : PD → Option PD) (A5 : List PD → Option (List PD)) (a : List PD) : Option (List PD) :=
 chk (0 ≤ (a.length : Int) ∧ (56 : Nat) * (a.length : Int) ≤ 281474976710656 ∧ (a.length : Int) ≤ 281474976710656) <|
 itr (kP t9 a) LF (0, (List.replicate (a.length : Int).toNat ((PD.mk 0 0 ([] : LB) []) : PD)))
mutual
def t9 : Nat → PD → Option PD
 | 0, _ => none
 | n + 1, a => eW (t9 n) (A5 n) a
def A5 : Nat → List PD → Option (List PD)
 | 0, _ => none
 | n + 1, a => cL (t9 n) (A5 n) a
end
def iI (w6 : PC → Option PC) (D3 : List PC → Option (List PC)) (a : PC) : Option PC :=
 bnd (vQ a.params) fun x4 =>
 bnd (t9 RF a.datum) fun x5 =>
 bnd (D3 a.kids) fun x6 =>
 some (PC.mk a.kind a.number x4 x5 x6)
def kO (w6 : PC → Option PC) (a : List PC) (go6 : (Int × List PC) → Option (List PC)) (i4 : Int) (out5 : List PC) : Option (List PC) :=
 if i4 < (a.length : Int) then
  bnd (nth a i4) fun x7 =>
  bnd (w6 x7) fun x8 =>
  bnd (nth out5 i4) fun x9 =>
  chk (I64 (i4 + 1)) <|
  go6 ((i4 + 1), (out5.set i4.toNat x8))
 else
  some out5
def mO (w6 : PC → Option PC) (a : List PC) (go : (Int × List PC) → Option (List PC)) (v : Int × List PC) : Option (List PC) :=
 match v with
 | (i4, out5) => kO w6 a go i4 out5
def eV (w6 : PC → Option PC) (D3 : List PC → Option (List PC)) (a : List PC) : Option (List PC) :=
 chk (0 ≤ (a.length : Int) ∧ (120 : Nat) * (a.length : Int) ≤ 281474976710656 ∧ (a.length : Int) ≤ 281474976710656) <|
 itr (mO w6 a) LF (0, (List.replicate (a.length : Int).toNat ((PC.mk 0 0 [] (PD.mk 0 0 ([] : LB) []) []) : PC)))
mutual
def w6 : Nat → PC → Option PC
 | 0, _ => none
 | n + 1, a => iI (w6 n) (D3 n) a
def D3 : Nat → List PC → Option (List PC)
 | 0, _ => none
 | n + 1, a => eV (w6 n) (D3 n) a
end
def mJ (a : LI) (b : LI) (go4 : Int → Option Bool) (i3 : Int) : Option Bool :=
 if i3 < (a.length : Int) then
  bnd (nth a i3) fun x5 =>
  bnd (nth b i3) fun x6 =>
  if x5 = x6 then
   chk (I64 (i3 + 1)) <|
   go4 (i3 + 1)
  else
   some false
 else
  some true
def pU (a : LI) (b : LI) (go : Int → Option Bool) (v : Int) : Option Bool :=
 match v with
 | i3 => mJ a b go i3
def vP (a : LI) (b : LI) : Option Bool :=
 if (a.length : Int) = (b.length : Int) then
  itr (pU a b) LF 0
 else
  some false
def eN (t8 : PD → PD → Option Bool) (A3 : List PD → List PD → Option Bool) (a : PD) (b : PD) : Option Bool :=
 if a.kind = b.kind then
  if a.number = b.number then
   if a.text = b.text then
    bnd (A3 a.items b.items) fun x5 =>
    if x5 = true then
     some true
    else
     some false
   else
    some false
  else
   some false
 else
  some false
def gD (t8 : PD → PD → Option Bool) (a : List PD) (b : List PD) (go6 : Int → Option Bool) (i5 : Int) : Option Bool :=
 if i5 < (a.length : Int) then
  bnd (nth a i5) fun x7 =>
  bnd (nth b i5) fun x8 =>
  bnd (t8 x7 x8) fun x9 =>
  if x9 = true then
   chk (I64 (i5 + 1)) <|
   go6 (i5 + 1)
  else
   some false
 else
  some true
def kD (t8 : PD → PD → Option Bool) (a : List PD) (b : List PD) (go : Int → Option Bool) (v : Int) : Option Bool :=
 match v with
 | i5 => gD t8 a b go i5
def cJ (t8 : PD → PD → Option Bool) (A3 : List PD → List PD → Option Bool) (a : List PD) (b : List PD) : Option Bool :=
 if (a.length : Int) = (b.length : Int) then
  itr (kD t8 a b) LF 0
 else
  some false
mutual
def t8 : Nat → PD → PD → Option Bool
 | 0, _, _ => none
 | n + 1, a, b => eN (t8 n) (A3 n) a b
def A3 : Nat → List PD → List PD → Option Bool
 | 0, _, _ => none
 | n + 1, a, b => cJ (t8 n) (A3 n) a b
end
def iE (w9 : PC → PC → Option Bool) (D1 : List PC → List PC → Option Bool) (a : PC) (b : PC) : Option Bool :=
 if a.kind = b.kind then
  if a.number = b.number then
   bnd (vP a.params b.params) fun x5 =>
   if x5 = true then
    bnd (t8 RF a.datum b.datum) fun x6 =>
    if x6 = true then
     bnd (D1 a.kids b.kids) fun x7 =>
     if x7 = true then
      some true
     else
      some false
    else
     some false
   else
    some false
  else
   some false
 else
  some false
def kB (w9 : PC → PC → Option Bool) (a : List PC) (b : List PC) (go6 : Int → Option Bool) (i5 : Int) : Option Bool :=
 if i5 < (a.length : Int) then
  bnd (nth a i5) fun x7 =>
  bnd (nth b i5) fun x8 =>
  bnd (w9 x7 x8) fun x9 =>
  if x9 = true then
   chk (I64 (i5 + 1)) <|
   go6 (i5 + 1)
  else
   some false
 else
  some true
def mG (w9 : PC → PC → Option Bool) (a : List PC) (b : List PC) (go : Int → Option Bool) (v : Int) : Option Bool :=
 match v with
 | i5 => kB w9 a b go i5
def eK (w9 : PC → PC → Option Bool) (D1 : List PC → List PC → Option Bool) (a : List PC) (b : List PC) : Option Bool :=
 if (a.length : Int) = (b.length : Int) then
  itr (mG w9 a b) LF 0
 else
  some false
mutual
def w9 : Nat → PC → PC → Option Bool
 | 0, _, _ => none
 | n + 1, a, b => iE (w9 n) (D1 n) a b
def D1 : Nat → List PC → List PC → Option Bool
 | 0, _, _ => none
 | n + 1, a, b => eK (w9 n) (D1 n) a b
end
def M2 (go6 : (Int × Int × LI) → Option (Int × LI)) (k3 : Int) (i4 : Int) (a5 : LI) : Option (Int × LI) :=
 if i4 < (a5.length : Int) then
  bnd (nth a5 i4) fun x7 =>
  chk (I64 (k3 + 1)) <|
  chk (I64 (i4 + 1)) <|
  go6 ((k3 + 1), (i4 + 1), (a5.set i4.toNat k3))
 else
  some (k3, a5)
def kI (go : (Int × Int × LI) → Option (Int × LI)) (v : Int × Int × LI) : Option (Int × LI) :=
 match v with
 | (k3, i4, a5) => M2 go k3 i4 a5
def bN (a : LI) (k : Int) : Option (Int × LI) :=
 itr kI LF (k, 0, a)
def X3 (go4 : (Int × LB) → Option (LB)) (k2 : Int) (out3 : LB) : Option (LB) :=
 if k2 > 0 then
  chk (0 ≤ k2 ∧ k2 ≤ 9223372036854775807 ∧ (0 : Int) < 10) <|
  chk (I64 (48 + (k2 % 10))) <|
  chk (0 ≤ (48 + (k2 % 10)) ∧ (48 + (k2 % 10)) ≤ 255) <|
  chk (([(UInt8.ofNat (48 + (k2 % 10)).toNat)] : LB).length + out3.length ≤ 9223372036854775807) <|
  chk (0 ≤ k2 ∧ k2 ≤ 9223372036854775807 ∧ (0 : Int) < 10) <|
  go4 ((k2 / 10), (([(UInt8.ofNat (48 + (k2 % 10)).toNat)] : LB) ++ out3))
 else
  chk (([109] : LB).length + out3.length ≤ 9223372036854775807) <|
  some (([109] : LB) ++ out3)
def kJ (go : (Int × LB) → Option (LB)) (v : Int × LB) : Option (LB) :=
 match v with
 | (k2, out3) => X3 go k2 out3
def Q8 (k : Int) : Option (LB) :=
 if k ≤ 0 then
  some ([109, 48] : LB)
 else
  itr kJ LF (k, ([] : LB))
def G4 (s4 : List PD → Int → Option (Int × List PD)) (go7 : (Int × Int × List PD) → Option (Int × List PD)) (k4 : Int) (i5 : Int) (a6 : List PD) : Option (Int × List PD) :=
 if i5 < (a6.length : Int) then
  bnd (nth a6 i5) fun x8 =>
  chk (I64 (k4 + 1)) <|
  bnd (nth (a6.set i5.toNat (PD.mk k4 x8.number x8.text x8.items)) i5) fun x9 =>
  chk (I64 ((k4 + 1) + 1)) <|
  bnd (Q8 ((k4 + 1) + 1)) fun x10 =>
  bnd (nth ((a6.set i5.toNat (PD.mk k4 x8.number x8.text x8.items)).set i5.toNat (PD.mk x9.kind (k4 + 1) x9.text x9.items)) i5) fun x11 =>
  chk (I64 (((k4 + 1) + 1) + 1)) <|
  bnd (nth (((a6.set i5.toNat (PD.mk k4 x8.number x8.text x8.items)).set i5.toNat (PD.mk x9.kind (k4 + 1) x9.text x9.items)).set i5.toNat (PD.mk x11.kind x11.number x10 x11.items)) i5) fun x12 =>
  bnd (s4 x12.items (((k4 + 1) + 1) + 1)) fun x13 =>
  chk (x13.2.length = x12.items.length) <|
  chk (I64 (i5 + 1)) <|
  go7 (x13.1, (i5 + 1), ((((a6.set i5.toNat (PD.mk k4 x8.number x8.text x8.items)).set i5.toNat (PD.mk x9.kind (k4 + 1) x9.text x9.items)).set i5.toNat (PD.mk x11.kind x11.number x10 x11.items)).set i5.toNat (PD.mk x12.kind x12.number x12.text x13.2)))
 else
  some (k4, a6)
def eR (s4 : List PD → Int → Option (Int × List PD)) (go : (Int × Int × List PD) → Option (Int × List PD)) (v : Int × Int × List PD) : Option (Int × List PD) :=
 match v with
 | (k4, i5, a6) => G4 s4 go k4 i5 a6
def X2 (s4 : List PD → Int → Option (Int × List PD)) (a : List PD) (k : Int) : Option (Int × List PD) :=
 itr (eR s4) LF (k, 0, a)
def s4 : Nat → List PD → Int → Option (Int × List PD)
 | 0, _, _ => none
 | n + 1, a, k => X2 (s4 n) a k
def eQ (a : PD) (k : Int) : Option (Int × List PD) :=
 bnd (s4 RF a.items k) fun x3 =>
 chk (x3.2.length = a.items.length) <|
 some (x3.1, x3.2)
def J7 (u7 : List PC → Int → Option (Int × List PC)) (go7 : (Int × Int × List PC) → Option (Int × List PC)) (k4 : Int) (i5 : Int) (a6 : List PC) : Option (Int × List PC) :=
 if i5 < (a6.length : Int) then
  bnd (nth a6 i5) fun x8 =>
  chk (I64 (k4 + 1)) <|
  bnd (nth (a6.set i5.toNat (PC.mk k4 x8.number x8.params x8.datum x8.kids)) i5) fun x9 =>
  chk (I64 ((k4 + 1) + 1)) <|
  bnd (nth ((a6.set i5.toNat (PC.mk k4 x8.number x8.params x8.datum x8.kids)).set i5.toNat (PC.mk x9.kind (k4 + 1) x9.params x9.datum x9.kids)) i5) fun x10 =>
  bnd (bN x10.params ((k4 + 1) + 1)) fun x11 =>
  chk (x11.2.length = x10.params.length) <|
  bnd (nth (((a6.set i5.toNat (PC.mk k4 x8.number x8.params x8.datum x8.kids)).set i5.toNat (PC.mk x9.kind (k4 + 1) x9.params x9.datum x9.kids)).set i5.toNat (PC.mk x10.kind x10.number x11.2 x10.datum x10.kids)) i5) fun x12 =>
  chk (I64 (x11.1 + 1)) <|
  bnd (nth ((((a6.set i5.toNat (PC.mk k4 x8.number x8.params x8.datum x8.kids)).set i5.toNat (PC.mk x9.kind (k4 + 1) x9.params x9.datum x9.kids)).set i5.toNat (PC.mk x10.kind x10.number x11.2 x10.datum x10.kids)).set i5.toNat (PC.mk x12.kind x12.number x12.params (PD.mk x11.1 x12.datum.number x12.datum.text x12.datum.items) x12.kids)) i5) fun x13 =>
  chk (I64 ((x11.1 + 1) + 1)) <|
  bnd (Q8 ((x11.1 + 1) + 1)) fun x14 =>
  bnd (nth (((((a6.set i5.toNat (PC.mk k4 x8.number x8.params x8.datum x8.kids)).set i5.toNat (PC.mk x9.kind (k4 + 1) x9.params x9.datum x9.kids)).set i5.toNat (PC.mk x10.kind x10.number x11.2 x10.datum x10.kids)).set i5.toNat (PC.mk x12.kind x12.number x12.params (PD.mk x11.1 x12.datum.number x12.datum.text x12.datum.items) x12.kids)).set i5.toNat (PC.mk x13.kind x13.number x13.params (PD.mk x13.datum.kind (x11.1 + 1) x13.datum.text x13.datum.items) x13.kids)) i5) fun x15 =>
  chk (I64 (((x11.1 + 1) + 1) + 1)) <|
  bnd (nth ((((((a6.set i5.toNat (PC.mk k4 x8.number x8.params x8.datum x8.kids)).set i5.toNat (PC.mk x9.kind (k4 + 1) x9.params x9.datum x9.kids)).set i5.toNat (PC.mk x10.kind x10.number x11.2 x10.datum x10.kids)).set i5.toNat (PC.mk x12.kind x12.number x12.params (PD.mk x11.1 x12.datum.number x12.datum.text x12.datum.items) x12.kids)).set i5.toNat (PC.mk x13.kind x13.number x13.params (PD.mk x13.datum.kind (x11.1 + 1) x13.datum.text x13.datum.items) x13.kids)).set i5.toNat (PC.mk x15.kind x15.number x15.params (PD.mk x15.datum.kind x15.datum.number x14 x15.datum.items) x15.kids)) i5) fun x16 =>
  bnd (s4 RF x16.datum.items (((x11.1 + 1) + 1) + 1)) fun x17 =>
  chk (x17.2.length = x16.datum.items.length) <|
  bnd (nth (((((((a6.set i5.toNat (PC.mk k4 x8.number x8.params x8.datum x8.kids)).set i5.toNat (PC.mk x9.kind (k4 + 1) x9.params x9.datum x9.kids)).set i5.toNat (PC.mk x10.kind x10.number x11.2 x10.datum x10.kids)).set i5.toNat (PC.mk x12.kind x12.number x12.params (PD.mk x11.1 x12.datum.number x12.datum.text x12.datum.items) x12.kids)).set i5.toNat (PC.mk x13.kind x13.number x13.params (PD.mk x13.datum.kind (x11.1 + 1) x13.datum.text x13.datum.items) x13.kids)).set i5.toNat (PC.mk x15.kind x15.number x15.params (PD.mk x15.datum.kind x15.datum.number x14 x15.datum.items) x15.kids)).set i5.toNat (PC.mk x16.kind x16.number x16.params (PD.mk x16.datum.kind x16.datum.number x16.datum.text x17.2) x16.kids)) i5) fun x18 =>
  bnd (u7 x18.kids x17.1) fun x19 =>
  chk (x19.2.length = x18.kids.length) <|
  chk (I64 (i5 + 1)) <|
  go7 (x19.1, (i5 + 1), ((((((((a6.set i5.toNat (PC.mk k4 x8.number x8.params x8.datum x8.kids)).set i5.toNat (PC.mk x9.kind (k4 + 1) x9.params x9.datum x9.kids)).set i5.toNat (PC.mk x10.kind x10.number x11.2 x10.datum x10.kids)).set i5.toNat (PC.mk x12.kind x12.number x12.params (PD.mk x11.1 x12.datum.number x12.datum.text x12.datum.items) x12.kids)).set i5.toNat (PC.mk x13.kind x13.number x13.params (PD.mk x13.datum.kind (x11.1 + 1) x13.datum.text x13.datum.items) x13.kids)).set i5.toNat (PC.mk x15.kind x15.number x15.params (PD.mk x15.datum.kind x15.datum.number x14 x15.datum.items) x15.kids)).set i5.toNat (PC.mk x16.kind x16.number x16.params (PD.mk x16.datum.kind x16.datum.number x16.datum.text x17.2) x16.kids)).set i5.toNat (PC.mk x18.kind x18.number x18.params x18.datum x19.2)))
 else
  some (k4, a6)
def gG (u7 : List PC → Int → Option (Int × List PC)) (go : (Int × Int × List PC) → Option (Int × List PC)) (v : Int × Int × List PC) : Option (Int × List PC) :=
 match v with
 | (k4, i5, a6) => J7 u7 go k4 i5 a6
def aO (u7 : List PC → Int → Option (Int × List PC)) (a : List PC) (k : Int) : Option (Int × List PC) :=
 itr (gG u7) LF (k, 0, a)
def u7 : Nat → List PC → Int → Option (Int × List PC)
 | 0, _, _ => none
 | n + 1, a, k => aO (u7 n) a k
def cX (a : PC) (k : Int) : Option (Int × LI × List PD × List PC) :=
 bnd (bN a.params k) fun x3 =>
 chk (x3.2.length = a.params.length) <|
 bnd (eQ a.datum x3.1) fun x4 =>
 chk (x4.2.length = a.datum.items.length) <|
 bnd (u7 RF a.kids x4.1) fun x5 =>
 chk (x5.2.length = a.kids.length) <|
 some (x5.1, x3.2, x4.2, x5.2)
def L9 (a : LI) (go5 : (Int × Int) → Option Int) (k3 : Int) (i4 : Int) : Option Int :=
 if i4 < (a.length : Int) then
  bnd (nth a i4) fun x6 =>
  if x6 = k3 then
   chk (I64 (k3 + 1)) <|
   chk (I64 (i4 + 1)) <|
   go5 ((k3 + 1), (i4 + 1))
  else
   some (-1)
 else
  some k3
def kF (a : LI) (go : (Int × Int) → Option Int) (v : Int × Int) : Option Int :=
 match v with
 | (k3, i4) => L9 a go k3 i4
def bM (a : LI) (k : Int) : Option Int :=
 itr (kF a) LF (k, 0)
def G3 (r9 : List PD → Int → Option Int) (a : List PD) (go6 : (Int × Int) → Option Int) (k4 : Int) (i5 : Int) : Option Int :=
 if i5 < (a.length : Int) then
  bnd (nth a i5) fun x7 =>
  if x7.kind = k4 then
   chk (I64 (k4 + 1)) <|
   bnd (nth a i5) fun x8 =>
   if x8.number = (k4 + 1) then
    chk (I64 ((k4 + 1) + 1)) <|
    bnd (nth a i5) fun x9 =>
    bnd (Q8 ((k4 + 1) + 1)) fun x10 =>
    if x9.text = x10 then
     chk (I64 (((k4 + 1) + 1) + 1)) <|
     bnd (nth a i5) fun x11 =>
     bnd (r9 x11.items (((k4 + 1) + 1) + 1)) fun x12 =>
     if x12 < 0 then
      some (-1)
     else
      chk (I64 (i5 + 1)) <|
      go6 (x12, (i5 + 1))
    else
     some (-1)
   else
    some (-1)
  else
   some (-1)
 else
  some k4
def eP (r9 : List PD → Int → Option Int) (a : List PD) (go : (Int × Int) → Option Int) (v : Int × Int) : Option Int :=
 match v with
 | (k4, i5) => G3 r9 a go k4 i5
def X1 (r9 : List PD → Int → Option Int) (a : List PD) (k : Int) : Option Int :=
 itr (eP r9 a) LF (k, 0)
def r9 : Nat → List PD → Int → Option Int
 | 0, _, _ => none
 | n + 1, a, k => X1 (r9 n) a k
def eO (a : PD) (k : Int) : Option Int :=
 bnd (r9 RF a.items k) fun x3 =>
 if x3 < 0 then
  some (-1)
 else
  some x3
def J6 (u6 : List PC → Int → Option Int) (a : List PC) (go6 : (Int × Int) → Option Int) (k4 : Int) (i5 : Int) : Option Int :=
 if i5 < (a.length : Int) then
  bnd (nth a i5) fun x7 =>
  if x7.kind = k4 then
   chk (I64 (k4 + 1)) <|
   bnd (nth a i5) fun x8 =>
   if x8.number = (k4 + 1) then
    chk (I64 ((k4 + 1) + 1)) <|
    bnd (nth a i5) fun x9 =>
    bnd (bM x9.params ((k4 + 1) + 1)) fun x10 =>
    if x10 < 0 then
     some (-1)
    else
     bnd (nth a i5) fun x11 =>
     if x11.datum.kind = x10 then
      chk (I64 (x10 + 1)) <|
      bnd (nth a i5) fun x12 =>
      if x12.datum.number = (x10 + 1) then
       chk (I64 ((x10 + 1) + 1)) <|
       bnd (nth a i5) fun x13 =>
       bnd (Q8 ((x10 + 1) + 1)) fun x14 =>
       if x13.datum.text = x14 then
        chk (I64 (((x10 + 1) + 1) + 1)) <|
        bnd (nth a i5) fun x15 =>
        bnd (r9 RF x15.datum.items (((x10 + 1) + 1) + 1)) fun x16 =>
        if x16 < 0 then
         some (-1)
        else
         bnd (nth a i5) fun x17 =>
         bnd (u6 x17.kids x16) fun x18 =>
         if x18 < 0 then
          some (-1)
         else
          chk (I64 (i5 + 1)) <|
          go6 (x18, (i5 + 1))
       else
        some (-1)
      else
       some (-1)
     else
      some (-1)
   else
    some (-1)
  else
   some (-1)
 else
  some k4
def gE (u6 : List PC → Int → Option Int) (a : List PC) (go : (Int × Int) → Option Int) (v : Int × Int) : Option Int :=
 match v with
 | (k4, i5) => J6 u6 a go k4 i5
def aN (u6 : List PC → Int → Option Int) (a : List PC) (k : Int) : Option Int :=
 itr (gE u6 a) LF (k, 0)
def u6 : Nat → List PC → Int → Option Int
 | 0, _, _ => none
 | n + 1, a, k => aN (u6 n) a k
def cW (a : PC) (k : Int) : Option Int :=
 bnd (bM a.params k) fun x3 =>
 if x3 < 0 then
  some (-1)
 else
  bnd (eO a.datum x3) fun x4 =>
  if x4 < 0 then
   some (-1)
  else
   bnd (u6 RF a.kids x4) fun x5 =>
   if x5 < 0 then
    some (-1)
   else
    some x5
def K4 (aC : PC) : Option Bool :=
 bnd (z6 RF aC 1048576) fun x2 =>
 if x2 < 0 then
  some true
 else
  bnd (w6 RF aC) fun x3 =>
  bnd (X0 x3) fun x4 =>
  bnd (w6 RF aC) fun x5 =>
  bnd (Q7 x5) fun x6 =>
  bnd (w9 RF x6.1 x4.1) fun x7 =>
  if x7 = true then
   if x6.2 = x4.2 then
    bnd (w6 RF aC) fun x8 =>
    bnd (w9 RF x5 x8) fun x9 =>
    if x9 = true then
     bnd (cX x5 1) fun x10 =>
     chk (x10.2.1.length = x5.params.length) <|
     chk (x10.2.2.1.length = x5.datum.items.length) <|
     chk (x10.2.2.2.length = x5.kids.length) <|
     if x10.1 < 0 then
      some false
     else
      bnd (w9 RF x6.1 x4.1) fun x11 =>
      if x11 = true then
       if x6.2 = x4.2 then
        bnd (cX x6.1 1) fun x12 =>
        chk (x12.2.1.length = x6.1.params.length) <|
        chk (x12.2.2.1.length = x6.1.datum.items.length) <|
        chk (x12.2.2.2.length = x6.1.kids.length) <|
        bnd (cW (PC.mk x6.1.kind x6.1.number x12.2.1 (PD.mk x6.1.datum.kind x6.1.datum.number x6.1.datum.text x12.2.2.1) x12.2.2.2) 1) fun x13 =>
        if x13 < 0 then
         some false
        else
         if x13 = x12.1 then
          bnd (w6 RF aC) fun x14 =>
          bnd (Q7 x14) fun x15 =>
          bnd (w9 RF x15.1 x4.1) fun x16 =>
          if x16 = true then
           if x15.2 = x4.2 then
            bnd (cW (PC.mk x6.1.kind x6.1.number x12.2.1 (PD.mk x6.1.datum.kind x6.1.datum.number x6.1.datum.text x12.2.2.1) x12.2.2.2) 1) fun x17 =>
            if x17 < 0 then
             some false
            else
             if x17 = x12.1 then
              some true
             else
              some false
           else
            some false
          else
           some false
         else
          some false
       else
        some false
      else
       some false
    else
     some false
   else
    some false
  else
   some false
end Go.Abs
