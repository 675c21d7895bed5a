
import Derived.Test.YtmgigglpdhoneaaGreatLibD
import Derived.Test.YtmgigglpdhoneaaGreatLibE
set_option linter.unusedVariables false
set_option linter.unusedSimpArgs false
namespace Go.Abs
set_option linter.unusedVariables false
def Y7 (x2 : Int) (go4 : (Int × (MI)) → Option (MI)) (x5 : LI) (go8 : (Int × (MI)) → Option (MI)) (x6 : Int) (out7 : MI) : Option (MI) :=
 if x6 < (x5.length : Int) then
  bnd (nth x5 x6) fun x9 =>
  chk (I64 (x6 + 1)) <|
  go8 ((x6 + 1), (mput out7 x9 1))
 else
  chk (I64 (x2 + 1)) <|
  go4 ((x2 + 1), out7)
def tC (x2 : Int) (go4 : (Int × (MI)) → Option (MI)) (x5 : LI) (go : (Int × (MI)) → Option (MI)) (v : Int × (MI)) : Option (MI) :=
 match v with
 | (x6, out7) => Y7 x2 go4 x5 go x6 out7
def Y6 (lists : List (LI)) (go4 : (Int × (MI)) → Option (MI)) (x2 : Int) (out3 : MI) : Option (MI) :=
 if x2 < (lists.length : Int) then
  bnd (nth lists x2) fun x5 =>
  itr (tC x2 go4 x5) LF (0, out3)
 else
  some out3
def tB (lists : List (LI)) (go : (Int × (MI)) → Option (MI)) (v : Int × (MI)) : Option (MI) :=
 match v with
 | (x2, out3) => Y6 lists go x2 out3
def xR (lists : List (LI)) : Option (MI) :=
 itr (tB lists) LF (0, ([] : MI))
def D4 (list : LI) (x_1 : Int) (x4 : MI) : Option (LI × (Option (MI))) :=
 if (mget x4 x_1) = 0 then
  chk ((list.length + ([x_1] : LI).length) * 8 ≤ 140737488355328) <|
  some ((list ++ ([x_1] : LI)), (some (mput x4 x_1 1)))
 else
  some (list, (some x4))
def D3 (list : LI) (seen : Option (MI)) (x_1 : Int) : Option (LI × (Option (MI))) :=
 if seen = none then
  D4 list x_1 ([] : MI)
 else
  bnd (seen) fun x4 =>
  D4 list x_1 x4
def P3 (r9 : PC → LI → Option (MI) → Option (LI × (Option (MI)))) (c : PC) (go10 : (Int × LI × (Option (MI))) → Option (LI × (Option (MI)))) (x7 : Int) (x8 : LI) (x9 : Option (MI)) : Option (LI × (Option (MI))) :=
 if x7 < (c.kids.length : Int) then
  bnd (nth c.kids x7) fun x11 =>
  bnd (r9 x11 x8 x9) fun x12 =>
  chk (I64 (x7 + 1)) <|
  go10 ((x7 + 1), x12.1, x12.2)
 else
  some (x8, x9)
def lR (r9 : PC → LI → Option (MI) → Option (LI × (Option (MI)))) (c : PC) (go : (Int × LI × (Option (MI))) → Option (LI × (Option (MI)))) (v : Int × LI × (Option (MI))) : Option (LI × (Option (MI))) :=
 match v with
 | (x7, x8, x9) => P3 r9 c go x7 x8 x9
def O5 (r9 : PC → LI → Option (MI) → Option (LI × (Option (MI)))) (c : PC) (x5 : LI) (x6 : Option (MI)) : Option (LI × (Option (MI))) :=
 itr (lR r9 c) LF (0, x5, x6)
def P4 (r9 : PC → LI → Option (MI) → Option (LI × (Option (MI)))) (c : PC) (go8 : (Int × LI × (Option (MI))) → Option (LI × (Option (MI)))) (x5 : Int) (x6 : LI) (x7 : Option (MI)) : Option (LI × (Option (MI))) :=
 if x5 < (c.params.length : Int) then
  bnd (nth c.params x5) fun x9 =>
  bnd (D3 x6 x7 x9) fun x10 =>
  chk (I64 (x5 + 1)) <|
  go8 ((x5 + 1), x10.1, x10.2)
 else
  O5 r9 c x6 x7
def lS (r9 : PC → LI → Option (MI) → Option (LI × (Option (MI)))) (c : PC) (go : (Int × LI × (Option (MI))) → Option (LI × (Option (MI)))) (v : Int × LI × (Option (MI))) : Option (LI × (Option (MI))) :=
 match v with
 | (x5, x6, x7) => P4 r9 c go x5 x6 x7
def dM (r9 : PC → LI → Option (MI) → Option (LI × (Option (MI)))) (c : PC) (list : LI) (seen : Option (MI)) : Option (LI × (Option (MI))) :=
 if c.kind = 4 then
  bnd (D3 list seen c.number) fun x5 =>
  O5 r9 c x5.1 x5.2
 else
  if c.kind = 9 then
   itr (lS r9 c) LF (0, list, seen)
  else
   O5 r9 c list seen
def r9 : Nat → PC → LI → Option (MI) → Option (LI × (Option (MI)))
 | 0, _, _, _ => none
 | n + 1, c, list, seen => dM (r9 n) c list seen
def Q5 (c : PC) : Option (LI) :=
 bnd (r9 RF c [] (none : Option (MI))) fun x2 =>
 some x2.1
def U2 (c : PC) (x14 : LI) (x15 : Option (MI)) (go19 : (Int × (MI)) → Option ((MI) × LI × (Option (MI)))) (x17 : Int) (bound18 : MI) : Option ((MI) × LI × (Option (MI))) :=
 if x17 < (c.params.length : Int) then
  bnd (nth c.params x17) fun x20 =>
  chk (I64 ((mget bound18 x20) - 1)) <|
  chk (I64 (x17 + 1)) <|
  go19 ((x17 + 1), (mput bound18 x20 ((mget bound18 x20) - 1)))
 else
  some (bound18, x14, x15)
def jL (c : PC) (x14 : LI) (x15 : Option (MI)) (go : (Int × (MI)) → Option ((MI) × LI × (Option (MI)))) (v : Int × (MI)) : Option ((MI) × LI × (Option (MI))) :=
 match v with
 | (x17, bound18) => U2 c x14 x15 go x17 bound18
def U1 (s5 : PC → MI → LI → Option (MI) → Option ((MI) × LI × (Option (MI)))) (c : PC) (go16 : (Int × (MI) × LI × (Option (MI))) → Option ((MI) × LI × (Option (MI)))) (x12 : Int) (bound13 : MI) (x14 : LI) (x15 : Option (MI)) : Option ((MI) × LI × (Option (MI))) :=
 if x12 < (c.kids.length : Int) then
  bnd (nth c.kids x12) fun x17 =>
  bnd (s5 x17 bound13 x14 x15) fun x18 =>
  chk (I64 (x12 + 1)) <|
  go16 ((x12 + 1), x18.1, x18.2.1, x18.2.2)
 else
  itr (jL c x14 x15) LF (0, bound13)
def jK (s5 : PC → MI → LI → Option (MI) → Option ((MI) × LI × (Option (MI)))) (c : PC) (go : (Int × (MI) × LI × (Option (MI))) → Option ((MI) × LI × (Option (MI)))) (v : Int × (MI) × LI × (Option (MI))) : Option ((MI) × LI × (Option (MI))) :=
 match v with
 | (x12, bound13, x14, x15) => U1 s5 c go x12 bound13 x14 x15
def U0 (s5 : PC → MI → LI → Option (MI) → Option ((MI) × LI × (Option (MI)))) (c : PC) (x7 : LI) (x8 : Option (MI)) (go11 : (Int × (MI)) → Option ((MI) × LI × (Option (MI)))) (x9 : Int) (bound10 : MI) : Option ((MI) × LI × (Option (MI))) :=
 if x9 < (c.params.length : Int) then
  bnd (nth c.params x9) fun x12 =>
  chk (I64 ((mget bound10 x12) + 1)) <|
  chk (I64 (x9 + 1)) <|
  go11 ((x9 + 1), (mput bound10 x12 ((mget bound10 x12) + 1)))
 else
  itr (jK s5 c) LF (0, bound10, x7, x8)
def oT (s5 : PC → MI → LI → Option (MI) → Option ((MI) × LI × (Option (MI)))) (c : PC) (x7 : LI) (x8 : Option (MI)) (go : (Int × (MI)) → Option ((MI) × LI × (Option (MI)))) (v : Int × (MI)) : Option ((MI) × LI × (Option (MI))) :=
 match v with
 | (x9, bound10) => U0 s5 c x7 x8 go x9 bound10
def Y5 (s5 : PC → MI → LI → Option (MI) → Option ((MI) × LI × (Option (MI)))) (c : PC) (bound : MI) (x7 : LI) (x8 : Option (MI)) : Option ((MI) × LI × (Option (MI))) :=
 itr (oT s5 c x7 x8) LF (0, bound)
def T9 (s5 : PC → MI → LI → Option (MI) → Option ((MI) × LI × (Option (MI)))) (c : PC) (bound : MI) (list : LI) (seen : Option (MI)) (x6 : Bool) : Option ((MI) × LI × (Option (MI))) :=
 if x6 = true then
  bnd (D3 list seen c.number) fun x7 =>
  Y5 s5 c bound x7.1 x7.2
 else
  Y5 s5 c bound list seen
def gZ (s5 : PC → MI → LI → Option (MI) → Option ((MI) × LI × (Option (MI)))) (c : PC) (bound : MI) (list : LI) (seen : Option (MI)) : Option ((MI) × LI × (Option (MI))) :=
 if c.kind = 2 then
  T9 s5 c bound list seen (decide ((mget bound c.number) = 0))
 else
  if c.kind = 4 then
   T9 s5 c bound list seen (decide ((mget bound c.number) = 0))
  else
   T9 s5 c bound list seen false
def s5 : Nat → PC → MI → LI → Option (MI) → Option ((MI) × LI × (Option (MI)))
 | 0, _, _, _, _ => none
 | n + 1, c, bound, list, seen => gZ (s5 n) c bound list seen
def N5 (c : PC) : Option (LI) :=
 bnd (s5 RF c ([] : MI) [] (none : Option (MI))) fun x2 =>
 some x2.2.1
def fP (c : PC) : Option Bool :=
 if c.kind = 1 then
  some (decide ((c.datum.items.length : Int) = 0))
 else
  some false
def v9 : Option (List (LB)) :=
 some ([([43] : LB), ([45] : LB), ([42] : LB), ([61] : LB), ([60] : LB), ([99, 111, 110, 115] : LB), ([99, 97, 114] : LB), ([99, 100, 114] : LB), ([110, 117, 108, 108, 63] : LB), ([112, 97, 105, 114, 63] : LB), ([110, 117, 109, 98, 101, 114, 63] : LB), ([101, 113, 63] : LB), ([110, 111, 116] : LB), ([100, 105, 115, 112, 108, 97, 121] : LB)] : List (LB))
def vV (primitive : Int) : Option Bool :=
 bnd (v9) fun x2 =>
 if primitive ≥ 0 then
  if primitive < (x2.length : Int) then
   bnd (nth x2 primitive) fun x3 =>
   if x3 = ([99, 111, 110, 115] : LB) then
    some false
   else
    bnd (nth x2 primitive) fun x4 =>
    some (!decide (x4 = ([100, 105, 115, 112, 108, 97, 121] : LB)))
  else
   some false
 else
  some false
def rB (primitive : Int) : Option Int :=
 bnd (v9) fun x2 =>
 if primitive < 0 then
  some (-1)
 else
  if primitive ≥ (x2.length : Int) then
   some (-1)
  else
   bnd (nth x2 primitive) fun x3 =>
   if x3 = ([43] : LB) then
    some 2
   else
    if x3 = ([45] : LB) then
     some 2
    else
     if x3 = ([42] : LB) then
      some 2
     else
      if x3 = ([61] : LB) then
       some 2
      else
       if x3 = ([60] : LB) then
        some 2
       else
        if x3 = ([99, 111, 110, 115] : LB) then
         some 2
        else
         if x3 = ([101, 113, 63] : LB) then
          some 2
         else
          some 1
def jN (B3 : PD → List PPair → Option (PVal × List PPair)) (d : PD) (go7 : (Int × List PPair × PVal) → Option (PVal × List PPair)) (i4 : Int) (pairs5 : List PPair) (list6 : PVal) : Option (PVal × List PPair) :=
 if i4 ≥ 0 then
  bnd (nth d.items i4) fun x8 =>
  bnd (B3 x8 pairs5) fun x9 =>
  chk ((x9.2.length + ([(PPair.mk x9.1 list6)] : List PPair).length) * 64 ≤ 140737488355328) <|
  chk (I64 (((x9.2 ++ ([(PPair.mk x9.1 list6)] : List PPair)).length : Int) - 1)) <|
  chk (I64 (i4 - 1)) <|
  go7 ((i4 - 1), (x9.2 ++ ([(PPair.mk x9.1 list6)] : List PPair)), (PVal.mk 7 (((x9.2 ++ ([(PPair.mk x9.1 list6)] : List PPair)).length : Int) - 1) ([] : LB)))
 else
  some (list6, pairs5)
def fQ (B3 : PD → List PPair → Option (PVal × List PPair)) (d : PD) (go : (Int × List PPair × PVal) → Option (PVal × List PPair)) (v : Int × List PPair × PVal) : Option (PVal × List PPair) :=
 match v with
 | (i4, pairs5, list6) => jN B3 d go i4 pairs5 list6
def dV (B3 : PD → List PPair → Option (PVal × List PPair)) (d : PD) (pairs : List PPair) : Option (PVal × List PPair) :=
 if d.kind = 1 then
  some ((PVal.mk 4 0 d.text), pairs)
 else
  if d.kind = 2 then
   some ((PVal.mk 3 d.number ([] : LB)), pairs)
  else
   if d.kind = 3 then
    some ((PVal.mk 2 d.number ([] : LB)), pairs)
   else
    if d.kind = 4 then
     some ((PVal.mk 5 0 d.text), pairs)
    else
     chk (I64 ((d.items.length : Int) - 1)) <|
     itr (fQ B3 d) LF (((d.items.length : Int) - 1), pairs, (PVal.mk 1 0 ([] : LB)))
def B3 : Nat → PD → List PPair → Option (PVal × List PPair)
 | 0, _, _ => none
 | n + 1, d, pairs => dV (B3 n) d pairs
def L8 (b : Bool) : Option PVal :=
 if b = true then
  some (PVal.mk 2 1 ([] : LB))
 else
  some (PVal.mk 2 0 ([] : LB))
def lT (x_1 : PVal) : Option Bool :=
 if x_1.kind = 2 then
  some (decide (x_1.number = 0))
 else
  some false
def L4 (args : List PVal) (pairs : List PPair) (x5 : LB) (x6 : PVal) (x7 : Bool) : Option (PVal × LB) :=
 if x7 = true then
  if x6.kind = 7 then
   if x5 = ([99, 97, 114] : LB) then
    bnd (nth pairs x6.number) fun x8 =>
    some (x8.h, ([] : LB))
   else
    bnd (nth pairs x6.number) fun x8 =>
    some (x8.t, ([] : LB))
  else
   chk (x5.length + ([58, 32, 98, 97, 100, 32, 97, 114, 103, 117, 109, 101, 110, 116] : LB).length ≤ 9223372036854775807) <|
   some ((PVal.mk 0 0 ([] : LB)), (x5 ++ ([58, 32, 98, 97, 100, 32, 97, 114, 103, 117, 109, 101, 110, 116] : LB)))
 else
  bnd (nth args 1) fun x8 =>
  if x6.kind = 3 then
   if x8.kind = 3 then
    if x5 = ([61] : LB) then
     bnd (L8 (decide (x6.number = x8.number))) fun x9 =>
     some (x9, ([] : LB))
    else
     if x5 = ([60] : LB) then
      bnd (L8 (decide (x6.number < x8.number))) fun x9 =>
      some (x9, ([] : LB))
     else
      if x5 = ([43] : LB) then
       chk (I64 (x6.number + x8.number)) <|
       if (x6.number + x8.number) < (-999999999) then
        some ((PVal.mk 0 0 ([] : LB)), ([110, 117, 109, 98, 101, 114, 32, 116, 111, 111, 32, 108, 97, 114, 103, 101] : LB))
       else
        if (x6.number + x8.number) > 999999999 then
         some ((PVal.mk 0 0 ([] : LB)), ([110, 117, 109, 98, 101, 114, 32, 116, 111, 111, 32, 108, 97, 114, 103, 101] : LB))
        else
         some ((PVal.mk 3 (x6.number + x8.number) ([] : LB)), ([] : LB))
      else
       if x5 = ([45] : LB) then
        chk (I64 (x6.number - x8.number)) <|
        if (x6.number - x8.number) < (-999999999) then
         some ((PVal.mk 0 0 ([] : LB)), ([110, 117, 109, 98, 101, 114, 32, 116, 111, 111, 32, 108, 97, 114, 103, 101] : LB))
        else
         if (x6.number - x8.number) > 999999999 then
          some ((PVal.mk 0 0 ([] : LB)), ([110, 117, 109, 98, 101, 114, 32, 116, 111, 111, 32, 108, 97, 114, 103, 101] : LB))
         else
          some ((PVal.mk 3 (x6.number - x8.number) ([] : LB)), ([] : LB))
       else
        if x5 = ([42] : LB) then
         chk (I64 (x6.number * x8.number)) <|
         if (x6.number * x8.number) < (-999999999) then
          some ((PVal.mk 0 0 ([] : LB)), ([110, 117, 109, 98, 101, 114, 32, 116, 111, 111, 32, 108, 97, 114, 103, 101] : LB))
         else
          if (x6.number * x8.number) > 999999999 then
           some ((PVal.mk 0 0 ([] : LB)), ([110, 117, 109, 98, 101, 114, 32, 116, 111, 111, 32, 108, 97, 114, 103, 101] : LB))
          else
           some ((PVal.mk 3 (x6.number * x8.number) ([] : LB)), ([] : LB))
        else
         if 0 < (-999999999) then
          some ((PVal.mk 0 0 ([] : LB)), ([110, 117, 109, 98, 101, 114, 32, 116, 111, 111, 32, 108, 97, 114, 103, 101] : LB))
         else
          if 0 > 999999999 then
           some ((PVal.mk 0 0 ([] : LB)), ([110, 117, 109, 98, 101, 114, 32, 116, 111, 111, 32, 108, 97, 114, 103, 101] : LB))
          else
           some ((PVal.mk 3 0 ([] : LB)), ([] : LB))
   else
    chk (x5.length + ([58, 32, 98, 97, 100, 32, 97, 114, 103, 117, 109, 101, 110, 116] : LB).length ≤ 9223372036854775807) <|
    some ((PVal.mk 0 0 ([] : LB)), (x5 ++ ([58, 32, 98, 97, 100, 32, 97, 114, 103, 117, 109, 101, 110, 116] : LB)))
  else
   chk (x5.length + ([58, 32, 98, 97, 100, 32, 97, 114, 103, 117, 109, 101, 110, 116] : LB).length ≤ 9223372036854775807) <|
   some ((PVal.mk 0 0 ([] : LB)), (x5 ++ ([58, 32, 98, 97, 100, 32, 97, 114, 103, 117, 109, 101, 110, 116] : LB)))
def N6 (primitive : Int) (args : List PVal) (pairs : List PPair) : Option (PVal × LB) :=
 bnd (v9) fun x4 =>
 bnd (nth x4 primitive) fun x5 =>
 bnd (nth args 0) fun x6 =>
 if x5 = ([110, 117, 108, 108, 63] : LB) then
  bnd (L8 (decide (x6.kind = 1))) fun x7 =>
  some (x7, ([] : LB))
 else
  if x5 = ([112, 97, 105, 114, 63] : LB) then
   bnd (L8 (decide (x6.kind = 7))) fun x7 =>
   some (x7, ([] : LB))
  else
   if x5 = ([110, 117, 109, 98, 101, 114, 63] : LB) then
    bnd (L8 (decide (x6.kind = 3))) fun x7 =>
    some (x7, ([] : LB))
   else
    if x5 = ([110, 111, 116] : LB) then
     bnd (lT x6) fun x7 =>
     bnd (L8 x7) fun x8 =>
     some (x8, ([] : LB))
    else
     if x5 = ([101, 113, 63] : LB) then
      bnd (nth args 1) fun x7 =>
      bnd (L8 (decide (x6 = x7))) fun x8 =>
      some (x8, ([] : LB))
     else
      if x5 = ([99, 97, 114] : LB) then
       L4 args pairs x5 x6 true
      else
       L4 args pairs x5 x6 (decide (x5 = ([99, 100, 114] : LB)))
def bY (c : PC) (x3 : PC) (go8 : (Int × List PVal) → Option (PC × Bool)) (x6 : Int) (args7 : List PVal) : Option (PC × Bool) :=
 if x6 < ((c.kids.drop (1 : Int).toNat).length : Int) then
  bnd (nth (c.kids.drop (1 : Int).toNat) x6) fun x9 =>
  bnd (fP x9) fun x10 =>
  if x10 = true then
   bnd (B3 RF x9.datum []) fun x11 =>
   chk ((args7.length + ([x11.1] : List PVal).length) * 32 ≤ 140737488355328) <|
   chk (I64 (x6 + 1)) <|
   go8 ((x6 + 1), (args7 ++ ([x11.1] : List PVal)))
  else
   some ((PC.mk 0 0 [] (PD.mk 0 0 ([] : LB) []) []), false)
 else
  bnd (N6 x3.number args7 []) fun x9 =>
  if x9.2 = ([] : LB) then
   if x9.1.kind = 1 then
    some ((PC.mk 1 0 [] (PD.mk 0 0 ([] : LB) []) []), true)
   else
    if x9.1.kind = 2 then
     some ((PC.mk 1 0 [] (PD.mk 3 x9.1.number ([] : LB) []) []), true)
    else
     if x9.1.kind = 3 then
      some ((PC.mk 1 0 [] (PD.mk 2 x9.1.number ([] : LB) []) []), true)
     else
      some ((PC.mk 0 0 [] (PD.mk 0 0 ([] : LB) []) []), false)
  else
   some ((PC.mk 0 0 [] (PD.mk 0 0 ([] : LB) []) []), false)
def oS (c : PC) (x3 : PC) (go : (Int × List PVal) → Option (PC × Bool)) (v : Int × List PVal) : Option (PC × Bool) :=
 match v with
 | (x6, args7) => bY c x3 go x6 args7
def rD (c : PC) : Option (PC × Bool) :=
 if c.kind = 6 then
  bnd (nth c.kids 0) fun x2 =>
  if x2.kind = 3 then
   bnd (nth c.kids 0) fun x3 =>
   bnd (vV x3.number) fun x4 =>
   if x4 = true then
    chk (I64 ((c.kids.length : Int) - 1)) <|
    bnd (rB x3.number) fun x5 =>
    if ((c.kids.length : Int) - 1) = x5 then
     chk (0 ≤ (1 : Int) ∧ (1 : Int) ≤ c.kids.length) <|
     itr (oS c x3) LF (0, [])
    else
     some ((PC.mk 0 0 [] (PD.mk 0 0 ([] : LB) []) []), false)
   else
    some ((PC.mk 0 0 [] (PD.mk 0 0 ([] : LB) []) []), false)
  else
   some ((PC.mk 0 0 [] (PD.mk 0 0 ([] : LB) []) []), false)
 else
  some ((PC.mk 0 0 [] (PD.mk 0 0 ([] : LB) []) []), false)
def Z7 (c : PC) (boxed : MI) : Option Bool :=
 bnd (fP c) fun x3 =>
 if x3 = true then
  some true
 else
  if c.kind = 3 then
   some true
  else
   if c.kind = 2 then
    some (decide ((mget boxed c.number) = 0))
   else
    some false
def gY (list : LI) : Option (LI) :=
 chk (list.length * 8 ≤ 140737488355328) <|
 some list
def aI (q9 : PD → Option PD) (A8 : List PD → Option (List PD)) (d : PD) : Option PD :=
 bnd (A8 d.items) fun x4 =>
 some (PD.mk d.kind d.number d.text x4)
def M3 (q9 : PD → Option PD) (list : List PD) (go6 : (Int × List PD) → Option (List PD)) (x4 : Int) (out5 : List PD) : Option (List PD) :=
 if x4 < (list.length : Int) then
  bnd (nth list x4) fun x7 =>
  bnd (q9 x7) fun x8 =>
  chk ((out5.length + ([x8] : List PD).length) * 56 ≤ 140737488355328) <|
  chk (I64 (x4 + 1)) <|
  go6 ((x4 + 1), (out5 ++ ([x8] : List PD)))
 else
  some out5
def jF (q9 : PD → Option PD) (list : List PD) (go : (Int × List PD) → Option (List PD)) (v : Int × List PD) : Option (List PD) :=
 match v with
 | (x4, out5) => M3 q9 list go x4 out5
def bX (q9 : PD → Option PD) (A8 : List PD → Option (List PD)) (list : List PD) : Option (List PD) :=
 itr (jF q9 list) LF (0, [])
mutual
def q9 : Nat → PD → Option PD
 | 0, _ => none
 | n + 1, d => aI (q9 n) (A8 n) d
def A8 : Nat → List PD → Option (List PD)
 | 0, _ => none
 | n + 1, list => bX (q9 n) (A8 n) list
end
def M2 (o9 : PC → Option PC) (c : PC) (x3 : LI) (x4 : PD) (go7 : (Int × List PC) → Option PC) (x5 : Int) (x6 : List PC) : Option PC :=
 if x5 < (c.kids.length : Int) then
  bnd (nth c.kids x5) fun x8 =>
  bnd (o9 x8) fun x9 =>
  chk ((x6.length + ([x9] : List PC).length) * 120 ≤ 140737488355328) <|
  chk (I64 (x5 + 1)) <|
  go7 ((x5 + 1), (x6 ++ ([x9] : List PC)))
 else
  some (PC.mk c.kind c.number x3 x4 x6)
def jE (o9 : PC → Option PC) (c : PC) (x3 : LI) (x4 : PD) (go : (Int × List PC) → Option PC) (v : Int × List PC) : Option PC :=
 match v with
 | (x5, x6) => M2 o9 c x3 x4 go x5 x6
def bW (o9 : PC → Option PC) (c : PC) : Option PC :=
 bnd (gY c.params) fun x3 =>
 bnd (q9 RF c.datum) fun x4 =>
 itr (jE o9 c x3 x4) LF (0, [])
def o9 : Nat → PC → Option PC
 | 0, _ => none
 | n + 1, c => bW (o9 n) c
def E8 (m9 : PC → Int → PC → Option PC) (c : PC) (x_1 : Int) (simple : PC) (x6 : PC) (go9 : (Int × List PC) → Option PC) (x7 : Int) (x8 : List PC) : Option PC :=
 if x7 < (c.kids.length : Int) then
  bnd (nth c.kids x7) fun x10 =>
  bnd (m9 x10 x_1 simple) fun x11 =>
  chk ((x8.length + ([x11] : List PC).length) * 120 ≤ 140737488355328) <|
  chk (I64 (x7 + 1)) <|
  go9 ((x7 + 1), (x8 ++ ([x11] : List PC)))
 else
  some (PC.mk x6.kind x6.number x6.params x6.datum x8)
def G8 (m9 : PC → Int → PC → Option PC) (c : PC) (x_1 : Int) (simple : PC) (x6 : PC) (go : (Int × List PC) → Option PC) (v : Int × List PC) : Option PC :=
 match v with
 | (x7, x8) => E8 m9 c x_1 simple x6 go x7 x8
def K9 (m9 : PC → Int → PC → Option PC) (c : PC) (x_1 : Int) (simple : PC) (x5 : Bool) : Option PC :=
 if x5 = true then
  bnd (o9 RF simple) fun x6 =>
  some x6
 else
  bnd (o9 RF (PC.mk c.kind c.number c.params c.datum [])) fun x6 =>
  itr (G8 m9 c x_1 simple x6) LF (0, x6.kids)
def U4 (m9 : PC → Int → PC → Option PC) (c : PC) (x_1 : Int) (simple : PC) : Option PC :=
 if c.kind = 2 then
  K9 m9 c x_1 simple (decide (c.number = x_1))
 else
  K9 m9 c x_1 simple false
def m9 : Nat → PC → Int → PC → Option PC
 | 0, _, _, _ => none
 | n + 1, c, x_1, simple => U4 (m9 n) c x_1 simple
def G5 (c : PC) (x4 : PC) (go18 : (Int × Int × Int × Int × Int × LB × LI × List PD × List PC) → Option (PC × Bool)) (x9 : Int) (out10 : Int) (out11 : Int) (out12 : Int) (out13 : Int) (out14 : LB) (x15 : LI) (x16 : List PD) (x17 : List PC) : Option (PC × Bool) :=
 if x9 < (x4.params.length : Int) then
  bnd (nth x4.params x9) fun x19 =>
  chk (I64 (x9 + 1)) <|
  bnd (nth c.kids (x9 + 1)) fun x20 =>
  bnd (m9 RF (PC.mk out10 out11 x15 (PD.mk out12 out13 out14 x16) x17) x19 x20) fun x21 =>
  chk (I64 (x9 + 1)) <|
  go18 ((x9 + 1), x21.kind, x21.number, x21.datum.kind, x21.datum.number, x21.datum.text, x21.params, x21.datum.items, x21.kids)
 else
  some ((PC.mk out10 out11 x15 (PD.mk out12 out13 out14 x16) x17), true)
def aL (c : PC) (x4 : PC) (go : (Int × Int × Int × Int × Int × LB × LI × List PD × List PC) → Option (PC × Bool)) (v : Int × Int × Int × Int × Int × LB × LI × List PD × List PC) : Option (PC × Bool) :=
 match v with
 | (x9, out10, out11, out12, out13, out14, x15, x16, x17) => G5 c x4 go x9 out10 out11 out12 out13 out14 x15 x16 x17
def Q7 (c : PC) (boxed : MI) (x4 : PC) (go6 : Int → Option (PC × Bool)) (x5 : Int) : Option (PC × Bool) :=
 if x5 < (x4.params.length : Int) then
  bnd (nth x4.params x5) fun x7 =>
  if (mget boxed x7) = 1 then
   some ((PC.mk 0 0 [] (PD.mk 0 0 ([] : LB) []) []), false)
  else
   chk (I64 (x5 + 1)) <|
   bnd (nth c.kids (x5 + 1)) fun x8 =>
   bnd (Z7 x8 boxed) fun x9 =>
   if x9 = true then
    chk (I64 (x5 + 1)) <|
    go6 (x5 + 1)
   else
    some ((PC.mk 0 0 [] (PD.mk 0 0 ([] : LB) []) []), false)
 else
  bnd (nth x4.kids 0) fun x7 =>
  bnd (o9 RF x7) fun x8 =>
  itr (aL c x4) LF (0, x8.kind, x8.number, x8.datum.kind, x8.datum.number, x8.datum.text, x8.params, x8.datum.items, x8.kids)
def aK (c : PC) (boxed : MI) (x4 : PC) (go : Int → Option (PC × Bool)) (v : Int) : Option (PC × Bool) :=
 match v with
 | x5 => Q7 c boxed x4 go x5
def N7 (c : PC) (x6 : Bool) : Option (PC × Bool) :=
 if x6 = true then
  bnd (nth c.kids 2) fun x7 =>
  bnd (o9 RF x7) fun x8 =>
  some (x8, true)
 else
  bnd (nth c.kids 1) fun x7 =>
  bnd (o9 RF x7) fun x8 =>
  some (x8, true)
def N8 (x3 : Int) (go5 : (Int × List PC) → Option (PC × Bool)) (kids6 : List PC) : Option (PC × Bool) :=
 chk (I64 (x3 + 1)) <|
 go5 ((x3 + 1), kids6)
def N9 (x3 : Int) (kids4 : List PC) (go5 : (Int × List PC) → Option (PC × Bool)) (x6 : PC) (x8 : Bool) : Option (PC × Bool) :=
 if x8 = true then
  bnd (o9 RF x6) fun x9 =>
  chk ((kids4.length + ([x9] : List PC).length) * 120 ≤ 140737488355328) <|
  N8 x3 go5 (kids4 ++ ([x9] : List PC))
 else
  N8 x3 go5 kids4
def J9 (c : PC) (x3 : Int) (kids4 : List PC) (go5 : (Int × List PC) → Option (PC × Bool)) (x6 : PC) (idle7 : Bool) : Option (PC × Bool) :=
 if idle7 = true then
  chk (I64 (x3 + 1)) <|
  N9 x3 kids4 go5 x6 (decide ((x3 + 1) = (c.kids.length : Int)))
 else
  N9 x3 kids4 go5 x6 true
def G6 (c : PC) (go5 : (Int × List PC) → Option (PC × Bool)) (x3 : Int) (kids4 : List PC) : Option (PC × Bool) :=
 if x3 < (c.kids.length : Int) then
  bnd (nth c.kids x3) fun x6 =>
  if x6.kind = 1 then
   J9 c x3 kids4 go5 x6 true
  else
   if x6.kind = 3 then
    J9 c x3 kids4 go5 x6 true
   else
    J9 c x3 kids4 go5 x6 (decide (x6.kind = 5))
 else
  if (kids4.length : Int) = (c.kids.length : Int) then
   some ((PC.mk 0 0 [] (PD.mk 0 0 ([] : LB) []) []), false)
  else
   if (kids4.length : Int) = 1 then
    bnd (nth kids4 0) fun x6 =>
    some (x6, true)
   else
    some ((PC.mk 8 0 [] (PD.mk 0 0 ([] : LB) []) kids4), true)
def aM (c : PC) (go : (Int × List PC) → Option (PC × Bool)) (v : Int × List PC) : Option (PC × Bool) :=
 match v with
 | (x3, kids4) => G6 c go x3 kids4
def Z8 (c : PC) (boxed : MI) : Option (PC × Bool) :=
 if c.kind = 6 then
  bnd (rD c) fun x3 =>
  if x3.2 = true then
   some (x3.1, true)
  else
   bnd (nth c.kids 0) fun x4 =>
   if x4.kind = 5 then
    chk (I64 ((c.kids.length : Int) - 1)) <|
    if (x4.params.length : Int) = ((c.kids.length : Int) - 1) then
     itr (aK c boxed x4) LF 0
    else
     some ((PC.mk 0 0 [] (PD.mk 0 0 ([] : LB) []) []), false)
   else
    some ((PC.mk 0 0 [] (PD.mk 0 0 ([] : LB) []) []), false)
 else
  if c.kind = 7 then
   bnd (nth c.kids 0) fun x3 =>
   bnd (fP x3) fun x4 =>
   if x4 = true then
    bnd (nth c.kids 0) fun x5 =>
    if x5.datum.kind = 3 then
     N7 c (decide (x5.datum.number = 0))
    else
     N7 c false
   else
    some ((PC.mk 0 0 [] (PD.mk 0 0 ([] : LB) []) []), false)
  else
   if c.kind = 8 then
    itr (aM c) LF (0, [])
   else
    some ((PC.mk 0 0 [] (PD.mk 0 0 ([] : LB) []) []), false)
def hU (x6 : Int) (go8 : (Int × Int × List PC) → Option (PC × Int)) (x9 : Int) (x10 : List PC) : Option (PC × Int) :=
 chk (I64 (x6 + 1)) <|
 go8 (x9, (x6 + 1), x10)
def hX (x5 : Int) (x6 : Int) (x7 : List PC) (go8 : (Int × Int × List PC) → Option (PC × Int)) (x10 : PC × Int) (x11 : Bool) : Option (PC × Int) :=
 if x11 = true then
  chk ((x7.length + x10.1.kids.length) * 120 ≤ 140737488355328) <|
  hU x6 go8 (x5 + x10.2) (x7 ++ x10.1.kids)
 else
  chk ((x7.length + ([x10.1] : List PC).length) * 120 ≤ 140737488355328) <|
  hU x6 go8 (x5 + x10.2) (x7 ++ ([x10.1] : List PC))
def dR (c : PC) (boxed : MI) (x4 : PC) (x5 : Int) (x7 : List PC) (x9 : Bool) : Option (PC × Int) :=
 if x9 = true then
  bnd (o9 RF c) fun x10 =>
  some (x10, 0)
 else
  bnd (Z8 (PC.mk x4.kind x4.number x4.params x4.datum x7) boxed) fun x10 =>
  if x10.2 = true then
   chk (I64 (x5 + 1)) <|
   some (x10.1, (x5 + 1))
  else
   some ((PC.mk x4.kind x4.number x4.params x4.datum x7), x5)
def hY (X0 : PC → MI → Option (PC × Int)) (c : PC) (boxed : MI) (x4 : PC) (go8 : (Int × Int × List PC) → Option (PC × Int)) (x5 : Int) (x6 : Int) (x7 : List PC) : Option (PC × Int) :=
 if x6 < (c.kids.length : Int) then
  bnd (nth c.kids x6) fun x9 =>
  bnd (X0 x9 boxed) fun x10 =>
  chk (I64 (x5 + x10.2)) <|
  if c.kind = 8 then
   hX x5 x6 x7 go8 x10 (decide (x10.1.kind = 8))
  else
   hX x5 x6 x7 go8 x10 false
 else
  if c.kind = 8 then
   dR c boxed x4 x5 x7 (decide ((x7.length : Int) > 60))
  else
   dR c boxed x4 x5 x7 false
def rF (X0 : PC → MI → Option (PC × Int)) (c : PC) (boxed : MI) (x4 : PC) (go : (Int × Int × List PC) → Option (PC × Int)) (v : Int × Int × List PC) : Option (PC × Int) :=
 match v with
 | (x5, x6, x7) => hY X0 c boxed x4 go x5 x6 x7
def rG (X0 : PC → MI → Option (PC × Int)) (c : PC) (boxed : MI) : Option (PC × Int) :=
 bnd (o9 RF (PC.mk c.kind c.number c.params c.datum [])) fun x4 =>
 itr (rF X0 c boxed x4) LF (0, 0, x4.kids)
def X0 : Nat → PC → MI → Option (PC × Int)
 | 0, _, _ => none
 | n + 1, c, boxed => rG (X0 n) c boxed
def hO (c : PC) (globals : LI) : Option (PC × Int) :=
 bnd (Q5 c) fun x3 =>
 bnd (N5 c) fun x4 =>
 bnd (xR ([x3, x4, globals] : List (LI))) fun x5 =>
 bnd (X0 RF c x5) fun x6 =>
 some (x6.1, x6.2)
end Go.Abs

namespace Go.Abs
set_option linter.unusedVariables false
def dK (w9 : PD → PD → Option Bool) (a : PD) (b : PD) (go5 : Int → Option Bool) (x4 : Int) : Option Bool :=
 if x4 < (a.items.length : Int) then
  bnd (nth a.items x4) fun x6 =>
  bnd (nth b.items x4) fun x7 =>
  bnd (w9 x6 x7) fun x8 =>
  if x8 = true then
   chk (I64 (x4 + 1)) <|
   go5 (x4 + 1)
  else
   some false
 else
  some true
def gG (w9 : PD → PD → Option Bool) (a : PD) (b : PD) (go : Int → Option Bool) (v : Int) : Option Bool :=
 match v with
 | x4 => dK w9 a b go x4
def aF (w9 : PD → PD → Option Bool) (a : PD) (b : PD) : Option Bool :=
 if a.kind = b.kind then
  if a.number = b.number then
   if a.text = b.text then
    if (a.items.length : Int) = (b.items.length : Int) then
     itr (gG w9 a b) LF 0
    else
     some false
   else
    some false
  else
   some false
 else
  some false
def w9 : Nat → PD → PD → Option Bool
 | 0, _, _ => none
 | n + 1, a, b => aF (w9 n) a b
def hC (b : Int) : Option Bool :=
 if b ≥ 48 then
  some (decide (b ≤ 57))
 else
  some false
def C6 (b : Int) (x2 : Bool) : Option Bool :=
 if x2 = true then
  some true
 else
  if b = 33 then
   some true
  else
   if b = 63 then
    some true
   else
    if b = 42 then
     some true
    else
     if b = 60 then
      some true
     else
      if b = 62 then
       some true
      else
       if b = 61 then
        some true
       else
        if b = 47 then
         some true
        else
         if b = 43 then
          some true
         else
          if b = 45 then
           some true
          else
           if b = 46 then
            some true
           else
            if b = 95 then
             some true
            else
             some false
def cA (b : Int) : Option Bool :=
 if b ≥ 97 then
  if b ≤ 122 then
   C6 b true
  else
   if b ≥ 48 then
    C6 b (decide (b ≤ 57))
   else
    C6 b false
 else
  if b ≥ 48 then
   C6 b (decide (b ≤ 57))
  else
   C6 b false
def L7 (s : LB) (go4 : Int → Option Bool) (i3 : Int) : Option Bool :=
 if i3 < (s.length : Int) then
  bnd (nth s i3) fun x5 =>
  bnd (cA (x5.toNat : Int)) fun x6 =>
  if x6 = true then
   chk (I64 (i3 + 1)) <|
   go4 (i3 + 1)
  else
   some false
 else
  some true
def jC (s : LB) (go : Int → Option Bool) (v : Int) : Option Bool :=
 match v with
 | i3 => L7 s go i3
def D2 (s : LB) (x2 : Bool) : Option Bool :=
 if x2 = true then
  some false
 else
  itr (jC s) LF 0
def gX (s : LB) : Option Bool :=
 if (s.length : Int) < 1 then
  D2 s true
 else
  if (s.length : Int) > 16 then
   D2 s true
  else
   bnd (nth s 0) fun x2 =>
   bnd (hC (x2.toNat : Int)) fun x3 =>
   if x3 = true then
    D2 s true
   else
    bnd (nth s 0) fun x4 =>
    if (x4.toNat : Int) = 45 then
     if (s.length : Int) > 1 then
      bnd (nth s 1) fun x5 =>
      bnd (hC (x5.toNat : Int)) fun x6 =>
      D2 s x6
     else
      D2 s false
    else
     D2 s false
def G7 (s : LB) (go3 : Int → Option Bool) (i2 : Int) : Option Bool :=
 if i2 < (s.length : Int) then
  bnd (nth s i2) fun x4 =>
  if (x4.toNat : Int) < 32 then
   some false
  else
   bnd (nth s i2) fun x5 =>
   if (x5.toNat : Int) > 126 then
    some false
   else
    bnd (nth s i2) fun x6 =>
    if (x6.toNat : Int) = 34 then
     some false
    else
     chk (I64 (i2 + 1)) <|
     go3 (i2 + 1)
 else
  some true
def dT (s : LB) (go : Int → Option Bool) (v : Int) : Option Bool :=
 match v with
 | i2 => G7 s go i2
def bZ (s : LB) : Option Bool :=
 if (s.length : Int) > 20 then
  some false
 else
  itr (dT s) LF 0
def dS (kind : Int) (number : Int) (text : LB) (items : Int) : Option Bool :=
 if kind = 0 then
  if number = 0 then
   some (decide (text = ([] : LB)))
  else
   some false
 else
  if kind = 1 then
   if number = 0 then
    if items = 0 then
     bnd (gX text) fun x5 =>
     some x5
    else
     some false
   else
    some false
  else
   if kind = 2 then
    if number ≥ (-999999999) then
     if number ≤ 999999999 then
      if text = ([] : LB) then
       some (decide (items = 0))
      else
       some false
     else
      some false
    else
     some false
   else
    if kind = 3 then
     if number = 0 then
      if text = ([] : LB) then
       some (decide (items = 0))
      else
       some false
     else
      if number = 1 then
       if text = ([] : LB) then
        some (decide (items = 0))
       else
        some false
      else
       some false
    else
     if kind = 4 then
      if number = 0 then
       if items = 0 then
        bnd (bZ text) fun x5 =>
        some x5
       else
        some false
      else
       some false
     else
      some false
def P5 (B2 : PD → Int → Int → Option (Bool × Int)) (d : PD) (deep : Int) (go8 : (Int × Int) → Option (Bool × Int)) (x6 : Int) (nodes7 : Int) : Option (Bool × Int) :=
 if x6 < (d.items.length : Int) then
  bnd (nth d.items x6) fun x9 =>
  chk (I64 (deep + 1)) <|
  bnd (B2 x9 (deep + 1) nodes7) fun x10 =>
  if x10.1 = true then
   chk (I64 (x6 + 1)) <|
   go8 ((x6 + 1), x10.2)
  else
   some (false, x10.2)
 else
  some (true, nodes7)
def lU (B2 : PD → Int → Int → Option (Bool × Int)) (d : PD) (deep : Int) (go : (Int × Int) → Option (Bool × Int)) (v : Int × Int) : Option (Bool × Int) :=
 match v with
 | (x6, nodes7) => P5 B2 d deep go x6 nodes7
def dP (B2 : PD → Int → Int → Option (Bool × Int)) (d : PD) (deep : Int) (nodes : Int) : Option (Bool × Int) :=
 chk (I64 (nodes + 1)) <|
 if deep > 20 then
  some (false, (nodes + 1))
 else
  if (nodes + 1) > 600 then
   some (false, (nodes + 1))
  else
   bnd (dS d.kind d.number d.text (d.items.length : Int)) fun x5 =>
   if x5 = true then
    itr (lU B2 d deep) LF (0, (nodes + 1))
   else
    some (false, (nodes + 1))
def B2 : Nat → PD → Int → Int → Option (Bool × Int)
 | 0, _, _, _ => none
 | n + 1, d, deep, nodes => dP (B2 n) d deep nodes
def lP (d : PD) : Option Bool :=
 bnd (B2 RF d 1 0) fun x2 =>
 some x2.1
def J8 (c : PC) (go5 : Int → Option Bool) (x4 : Int) : Option Bool :=
 if x4 < (c.kids.length : Int) then
  bnd (nth c.kids x4) fun x6 =>
  if x6.kind = 8 then
   some false
  else
   chk (I64 (x4 + 1)) <|
   go5 (x4 + 1)
 else
  some true
def bP (c : PC) (go : Int → Option Bool) (v : Int) : Option Bool :=
 match v with
 | x4 => J8 c go x4
def C5 (c : PC) (x3 : Bool) : Option Bool :=
 if x3 = true then
  some false
 else
  if c.kind = 1 then
   if (c.params.length : Int) = 0 then
    if (c.kids.length : Int) = 0 then
     bnd (lP c.datum) fun x4 =>
     some x4
    else
     some false
   else
    some false
  else
   if c.kind = 2 then
    if (c.params.length : Int) = 0 then
     some (decide ((c.kids.length : Int) = 0))
    else
     some false
   else
    if c.kind = 3 then
     if (c.params.length : Int) = 0 then
      if (c.kids.length : Int) = 0 then
       if c.number ≥ 0 then
        bnd (v9) fun x4 =>
        some (decide (c.number < (x4.length : Int)))
       else
        some false
      else
       some false
     else
      some false
    else
     if c.kind = 4 then
      if (c.params.length : Int) = 0 then
       some (decide ((c.kids.length : Int) = 1))
      else
       some false
     else
      if c.kind = 5 then
       if (c.params.length : Int) ≤ 8 then
        some (decide ((c.kids.length : Int) = 1))
       else
        some false
      else
       if c.kind = 6 then
        if (c.params.length : Int) = 0 then
         if (c.kids.length : Int) ≥ 1 then
          some (decide ((c.kids.length : Int) ≤ 9))
         else
          some false
        else
         some false
       else
        if c.kind = 7 then
         if (c.params.length : Int) = 0 then
          some (decide ((c.kids.length : Int) = 3))
         else
          some false
        else
         if c.kind = 8 then
          if (c.params.length : Int) = 0 then
           if (c.kids.length : Int) < 2 then
            some false
           else
            if (c.kids.length : Int) > 60 then
             some false
            else
             itr (bP c) LF 0
          else
           some false
         else
          if c.kind = 9 then
           if (c.params.length : Int) ≥ 1 then
            if (c.params.length : Int) ≤ 60 then
             if (c.kids.length : Int) ≥ 1 then
              some (decide ((c.kids.length : Int) ≤ 60))
             else
              some false
            else
             some false
           else
            some false
          else
           if c.kind = 10 then
            if (c.params.length : Int) = 0 then
             some (decide ((c.kids.length : Int) = 1))
            else
             some false
           else
            if c.kind = 11 then
             if (c.params.length : Int) = 1 then
              some (decide ((c.kids.length : Int) = 1))
             else
              some false
            else
             some false
def M4 (c : PC) (x2 : Bool) : Option Bool :=
 if x2 = true then
  some false
 else
  if c.number = 0 then
   C5 c false
  else
   if c.kind = 2 then
    C5 c false
   else
    if c.kind = 3 then
     C5 c false
    else
     C5 c (!decide (c.kind = 4))
def dO (c : PC) : Option Bool :=
 if c.kind = 1 then
  M4 c false
 else
  bnd (w9 RF c.datum (PD.mk 0 0 ([] : LB) [])) fun x2 =>
  M4 c (!x2)
def J7 (v6 : PC → Int → Int → Option (Bool × Int)) (c : PC) (deep : Int) (go8 : (Int × Int) → Option (Bool × Int)) (x6 : Int) (nodes7 : Int) : Option (Bool × Int) :=
 if x6 < (c.kids.length : Int) then
  bnd (nth c.kids x6) fun x9 =>
  chk (I64 (deep + 1)) <|
  bnd (v6 x9 (deep + 1) nodes7) fun x10 =>
  if x10.1 = true then
   chk (I64 (x6 + 1)) <|
   go8 ((x6 + 1), x10.2)
  else
   some (false, x10.2)
 else
  some (true, nodes7)
def gJ (v6 : PC → Int → Int → Option (Bool × Int)) (c : PC) (deep : Int) (go : (Int × Int) → Option (Bool × Int)) (v : Int × Int) : Option (Bool × Int) :=
 match v with
 | (x6, nodes7) => J7 v6 c deep go x6 nodes7
def aJ (v6 : PC → Int → Int → Option (Bool × Int)) (c : PC) (deep : Int) (nodes : Int) : Option (Bool × Int) :=
 chk (I64 (nodes + 1)) <|
 if deep > 150 then
  some (false, (nodes + 1))
 else
  if (nodes + 1) > 3000 then
   some (false, (nodes + 1))
  else
   bnd (dO c) fun x5 =>
   if x5 = true then
    itr (gJ v6 c deep) LF (0, (nodes + 1))
   else
    some (false, (nodes + 1))
def v6 : Nat → PC → Int → Int → Option (Bool × Int)
 | 0, _, _, _ => none
 | n + 1, c, deep, nodes => aJ (v6 n) c deep nodes
def z7 (x2 : Int) (go4 : (Int × (MI)) → Option Bool) (x5 : LI) (go8 : (Int × (MI)) → Option Bool) (x6 : Int) (seen7 : MI) : Option Bool :=
 if x6 < (x5.length : Int) then
  bnd (nth x5 x6) fun x9 =>
  if x9 < 0 then
   some false
  else
   if x9 > 99999 then
    some false
   else
    if (mget seen7 x9) = 1 then
     some false
    else
     chk (I64 (x6 + 1)) <|
     go8 ((x6 + 1), (mput seen7 x9 1))
 else
  chk (I64 (x2 + 1)) <|
  go4 ((x2 + 1), seen7)
def I8 (x2 : Int) (go4 : (Int × (MI)) → Option Bool) (x5 : LI) (go : (Int × (MI)) → Option Bool) (v : Int × (MI)) : Option Bool :=
 match v with
 | (x6, seen7) => z7 x2 go4 x5 go x6 seen7
def C9 (lists : List (LI)) (go4 : (Int × (MI)) → Option Bool) (x2 : Int) (seen3 : MI) : Option Bool :=
 if x2 < (lists.length : Int) then
  bnd (nth lists x2) fun x5 =>
  itr (I8 x2 go4 x5) LF (0, seen3)
 else
  some true
def I7 (lists : List (LI)) (go : (Int × (MI)) → Option Bool) (v : Int × (MI)) : Option Bool :=
 match v with
 | (x2, seen3) => C9 lists go x2 seen3
def I4 (lists : List (LI)) : Option Bool :=
 itr (I7 lists) LF (0, ([] : MI))
def jD (C4 : PC → LI → Option (LI)) (c : PC) (go6 : (Int × LI) → Option (LI)) (x4 : Int) (out5 : LI) : Option (LI) :=
 if x4 < (c.kids.length : Int) then
  bnd (nth c.kids x4) fun x7 =>
  bnd (C4 x7 out5) fun x8 =>
  chk (I64 (x4 + 1)) <|
  go6 ((x4 + 1), x8)
 else
  some out5
def lQ (C4 : PC → LI → Option (LI)) (c : PC) (go : (Int × LI) → Option (LI)) (v : Int × LI) : Option (LI) :=
 match v with
 | (x4, out5) => jD C4 c go x4 out5
def dL (C4 : PC → LI → Option (LI)) (c : PC) (out : LI) : Option (LI) :=
 chk ((out.length + c.params.length) * 8 ≤ 140737488355328) <|
 itr (lQ C4 c) LF (0, (out ++ c.params))
def C4 : Nat → PC → LI → Option (LI)
 | 0, _, _ => none
 | n + 1, c, out => dL (C4 n) c out
def Q4 (c : PC) : Option (LI) :=
 bnd (C4 RF c []) fun x2 =>
 some x2
def dU (c : PC) : Option Bool :=
 bnd (v6 RF c 1 0) fun x2 =>
 if x2.1 = true then
  bnd (N5 c) fun x3 =>
  bnd (Q4 c) fun x4 =>
  bnd (I4 ([x3, x4] : List (LI))) fun x5 =>
  some x5
 else
  some false
def U3 (globals : LI) (go13 : (Int × Int × Int × Int × Int × LB × LI × List PD × List PC) → Option (PC × Int)) (total4 : Int) (c5 : Int) (c6 : Int) (c7 : Int) (c8 : Int) (c9 : LB) (x10 : LI) (x11 : List PD) (x12 : List PC) : Option (PC × Int) :=
 bnd (hO (PC.mk c5 c6 x10 (PD.mk c7 c8 c9 x11) x12) globals) fun x14 =>
 chk (I64 (total4 + x14.2)) <|
 if x14.2 = 0 then
  some (x14.1, (total4 + x14.2))
 else
  go13 ((total4 + x14.2), x14.1.kind, x14.1.number, x14.1.datum.kind, x14.1.datum.number, x14.1.datum.text, x14.1.params, x14.1.datum.items, x14.1.kids)
def gK (globals : LI) (go : (Int × Int × Int × Int × Int × LB × LI × List PD × List PC) → Option (PC × Int)) (v : Int × Int × Int × Int × Int × LB × LI × List PD × List PC) : Option (PC × Int) :=
 match v with
 | (total4, c5, c6, c7, c8, c9, x10, x11, x12) => U3 globals go total4 c5 c6 c7 c8 c9 x10 x11 x12
def dQ (c : PC) (globals : LI) : Option (PC × Int) :=
 bnd (hO c globals) fun x3 =>
 chk (I64 (0 + x3.2)) <|
 if x3.2 = 0 then
  some (x3.1, (0 + x3.2))
 else
  itr (gK globals) LF ((0 + x3.2), x3.1.kind, x3.1.number, x3.1.datum.kind, x3.1.datum.number, x3.1.datum.text, x3.1.params, x3.1.datum.items, x3.1.kids)
def R6 (c : PC) : Option (PC × Int) :=
 bnd (dU c) fun x2 =>
 if x2 = true then
  bnd (dQ c []) fun x3 =>
  some (x3.1, x3.2)
 else
  some ((PC.mk 0 0 [] (PD.mk 0 0 ([] : LB) []) []), 0)
end Go.Abs

namespace Go.Abs
set_option linter.unusedVariables false
def cV (list : LI) : Option (LI) :=
 chk ((([] : LI).length + list.length) * 8 ≤ 140737488355328) <|
 some (([] : LI) ++ list)
def bF (F3 : PC → Int → Option (Bool × Int)) (c : PC) (i4 : Int) (left5 : Int) (go6 : (Int × Int) → Option (Bool × Int)) (x7 : Bool) : Option (Bool × Int) :=
 if x7 = true then
  bnd (nth c.kids i4) fun x8 =>
  bnd (F3 x8 left5) fun x9 =>
  chk (I64 (i4 + 1)) <|
  go6 ((i4 + 1), x9.2)
 else
  some ((decide (left5 ≥ 0)), left5)
def Z2 (F3 : PC → Int → Option (Bool × Int)) (c : PC) (go6 : (Int × Int) → Option (Bool × Int)) (i4 : Int) (left5 : Int) : Option (Bool × Int) :=
 if i4 < (c.kids.length : Int) then
  bF F3 c i4 left5 go6 (decide (left5 ≥ 0))
 else
  bF F3 c i4 left5 go6 false
def tV (F3 : PC → Int → Option (Bool × Int)) (c : PC) (go : (Int × Int) → Option (Bool × Int)) (v : Int × Int) : Option (Bool × Int) :=
 match v with
 | (i4, left5) => Z2 F3 c go i4 left5
def mT (F3 : PC → Int → Option (Bool × Int)) (c : PC) (left : Int) : Option (Bool × Int) :=
 chk (I64 (left - 1)) <|
 itr (tV F3 c) LF (0, (left - 1))
def F3 : Nat → PC → Int → Option (Bool × Int)
 | 0, _, _ => none
 | n + 1, c, left => mT (F3 n) c left
def iG (c : PC) : Option Bool :=
 bnd (F3 RF c 3000) fun x2 =>
 some x2.1
def gM (list : LI) (x_1 : Int) (go4 : Int → Option Bool) (x3 : Int) : Option Bool :=
 if x3 < (list.length : Int) then
  bnd (nth list x3) fun x5 =>
  if x5 = x_1 then
   some true
  else
   chk (I64 (x3 + 1)) <|
   go4 (x3 + 1)
 else
  some false
def rW (list : LI) (x_1 : Int) (go : Int → Option Bool) (v : Int) : Option Bool :=
 match v with
 | x3 => gM list x_1 go x3
def G4 (list : LI) (x_1 : Int) : Option Bool :=
 itr (rW list x_1) LF 0
def cE (c : PC) : Option Bool :=
 if c.kind = 2 then
  some true
 else
  some (decide (c.kind = 4))
def mV (w6 : PC → LI → LI → Option (LI)) (c : PC) (x7 : LI) (go10 : (Int × LI) → Option (LI)) (x8 : Int) (out9 : LI) : Option (LI) :=
 if x8 < (c.kids.length : Int) then
  bnd (nth c.kids x8) fun x11 =>
  bnd (w6 x11 (x7 ++ c.params) out9) fun x12 =>
  chk (I64 (x8 + 1)) <|
  go10 ((x8 + 1), x12)
 else
  some out9
def pU (w6 : PC → LI → LI → Option (LI)) (c : PC) (x7 : LI) (go : (Int × LI) → Option (LI)) (v : Int × LI) : Option (LI) :=
 match v with
 | (x8, out9) => mV w6 c x7 go x8 out9
def Z3 (w6 : PC → LI → LI → Option (LI)) (c : PC) (bound : LI) (out6 : LI) : Option (LI) :=
 bnd (cV bound) fun x7 =>
 chk ((x7.length + c.params.length) * 8 ≤ 140737488355328) <|
 itr (pU w6 c x7) LF (0, out6)
def V6 (w6 : PC → LI → LI → Option (LI)) (c : PC) (bound : LI) (out : LI) (x5 : Bool) : Option (LI) :=
 if x5 = true then
  chk ((out.length + ([c.number] : LI).length) * 8 ≤ 140737488355328) <|
  Z3 w6 c bound (out ++ ([c.number] : LI))
 else
  Z3 w6 c bound out
def iF (w6 : PC → LI → LI → Option (LI)) (c : PC) (bound : LI) (out : LI) : Option (LI) :=
 bnd (cE c) fun x5 =>
 if x5 = true then
  bnd (G4 bound c.number) fun x6 =>
  if x6 = true then
   V6 w6 c bound out false
  else
   bnd (G4 out c.number) fun x7 =>
   V6 w6 c bound out (!x7)
 else
  V6 w6 c bound out false
def w6 : Nat → PC → LI → LI → Option (LI)
 | 0, _, _, _ => none
 | n + 1, c, bound, out => iF (w6 n) c bound out
def kD (c : PC) (x6 : LI) (go9 : (Int × LI) → Option (LI)) (x7 : Int) (out8 : LI) : Option (LI) :=
 if x7 < (c.kids.length : Int) then
  bnd (nth c.kids x7) fun x10 =>
  bnd (w6 RF x10 (x6 ++ c.params) out8) fun x11 =>
  chk (I64 (x7 + 1)) <|
  go9 ((x7 + 1), x11)
 else
  some out8
def mU (c : PC) (x6 : LI) (go : (Int × LI) → Option (LI)) (v : Int × LI) : Option (LI) :=
 match v with
 | (x7, out8) => kD c x6 go x7 out8
def V5 (c : PC) (bound : LI) (out5 : LI) : Option (LI) :=
 bnd (cV bound) fun x6 =>
 chk ((x6.length + c.params.length) * 8 ≤ 140737488355328) <|
 itr (mU c x6) LF (0, out5)
def O7 (c : PC) (bound : LI) (out : LI) (x4 : Bool) : Option (LI) :=
 if x4 = true then
  chk ((out.length + ([c.number] : LI).length) * 8 ≤ 140737488355328) <|
  V5 c bound (out ++ ([c.number] : LI))
 else
  V5 c bound out
def sB (c : PC) (bound : LI) (out : LI) : Option (LI) :=
 bnd (cE c) fun x4 =>
 if x4 = true then
  bnd (G4 bound c.number) fun x5 =>
  if x5 = true then
   O7 c bound out false
  else
   bnd (G4 out c.number) fun x6 =>
   O7 c bound out (!x6)
 else
  O7 c bound out false
def D6 (c : PC) : Option (LI) :=
 bnd (sB c [] ([] : LI)) fun x2 =>
 some x2
def E9 (s6 : PC → Option Int) (c : PC) (go5 : (Int × Int) → Option Int) (x3 : Int) (x4 : Int) : Option Int :=
 if x4 < (c.kids.length : Int) then
  bnd (nth c.kids x4) fun x6 =>
  bnd (s6 x6) fun x7 =>
  chk (I64 (x4 + 1)) <|
  go5 ((max x3 x7), (x4 + 1))
 else
  chk (I64 (x3 + 1)) <|
  some (x3 + 1)
def cS (s6 : PC → Option Int) (c : PC) (go : (Int × Int) → Option Int) (v : Int × Int) : Option Int :=
 match v with
 | (x3, x4) => E9 s6 c go x3 x4
def U6 (s6 : PC → Option Int) (c : PC) : Option Int :=
 itr (cS s6 c) LF (0, 0)
def s6 : Nat → PC → Option Int
 | 0, _ => none
 | n + 1, c => U6 (s6 n) c
def aW (x_1 : Int) (a : Int) (b : Int) : Option Bool :=
 if x_1 ≥ a then
  some (decide (x_1 ≤ b))
 else
  some false
def o4 : Option (List (LB)) :=
 some ([([43] : LB), ([45] : LB), ([42] : LB), ([61] : LB), ([60] : LB), ([99, 111, 110, 115] : LB), ([99, 97, 114] : LB), ([99, 100, 114] : LB), ([110, 117, 108, 108, 63] : LB), ([112, 97, 105, 114, 63] : LB), ([110, 117, 109, 98, 101, 114, 63] : LB), ([101, 113, 63] : LB), ([110, 111, 116] : LB), ([100, 105, 115, 112, 108, 97, 121] : LB)] : List (LB))
def eF (y7 : PD → PD → Option Bool) (a : PD) (b : PD) (go5 : Int → Option Bool) (x4 : Int) : Option Bool :=
 if x4 < (a.items.length : Int) then
  bnd (nth a.items x4) fun x6 =>
  bnd (nth b.items x4) fun x7 =>
  bnd (y7 x6 x7) fun x8 =>
  if x8 = true then
   chk (I64 (x4 + 1)) <|
   go5 (x4 + 1)
  else
   some false
 else
  some true
def gL (y7 : PD → PD → Option Bool) (a : PD) (b : PD) (go : Int → Option Bool) (v : Int) : Option Bool :=
 match v with
 | x4 => eF y7 a b go x4
def aQ (y7 : PD → PD → Option Bool) (a : PD) (b : PD) : Option Bool :=
 if a.kind = b.kind then
  if a.number = b.number then
   if a.text = b.text then
    if (a.items.length : Int) = (b.items.length : Int) then
     itr (gL y7 a b) LF 0
    else
     some false
   else
    some false
  else
   some false
 else
  some false
def y7 : Nat → PD → PD → Option Bool
 | 0, _, _ => none
 | n + 1, a, b => aQ (y7 n) a b
def bE (F0 : PD → Int → Option (Bool × Int)) (d : PD) (i4 : Int) (left5 : Int) (go6 : (Int × Int) → Option (Bool × Int)) (x7 : Bool) : Option (Bool × Int) :=
 if x7 = true then
  bnd (nth d.items i4) fun x8 =>
  bnd (F0 x8 left5) fun x9 =>
  chk (I64 (i4 + 1)) <|
  go6 ((i4 + 1), x9.2)
 else
  some ((decide (left5 ≥ 0)), left5)
def Z1 (F0 : PD → Int → Option (Bool × Int)) (d : PD) (go6 : (Int × Int) → Option (Bool × Int)) (i4 : Int) (left5 : Int) : Option (Bool × Int) :=
 if i4 < (d.items.length : Int) then
  bE F0 d i4 left5 go6 (decide (left5 ≥ 0))
 else
  bE F0 d i4 left5 go6 false
def tU (F0 : PD → Int → Option (Bool × Int)) (d : PD) (go : (Int × Int) → Option (Bool × Int)) (v : Int × Int) : Option (Bool × Int) :=
 match v with
 | (i4, left5) => Z1 F0 d go i4 left5
def mM (F0 : PD → Int → Option (Bool × Int)) (d : PD) (left : Int) : Option (Bool × Int) :=
 chk (I64 (left - 1)) <|
 itr (tU F0 d) LF (0, (left - 1))
def F0 : Nat → PD → Int → Option (Bool × Int)
 | 0, _, _ => none
 | n + 1, d, left => mM (F0 n) d left
def P8 (B4 : PD → Option Int) (d : PD) (go5 : (Int × Int) → Option Int) (x3 : Int) (x4 : Int) : Option Int :=
 if x4 < (d.items.length : Int) then
  bnd (nth d.items x4) fun x6 =>
  bnd (B4 x6) fun x7 =>
  chk (I64 (x4 + 1)) <|
  go5 ((max x3 x7), (x4 + 1))
 else
  chk (I64 (x3 + 1)) <|
  some (x3 + 1)
def mJ (B4 : PD → Option Int) (d : PD) (go : (Int × Int) → Option Int) (v : Int × Int) : Option Int :=
 match v with
 | (x3, x4) => P8 B4 d go x3 x4
def eE (B4 : PD → Option Int) (d : PD) : Option Int :=
 itr (mJ B4 d) LF (0, 0)
def B4 : Nat → PD → Option Int
 | 0, _ => none
 | n + 1, d => eE (B4 n) d
def cC (b : Int) : Option Bool :=
 if b ≥ 48 then
  some (decide (b ≤ 57))
 else
  some false
def aA (b : Int) (go4 : Int → Option Bool) (i3 : Int) : Option Bool :=
 if i3 < (([33, 63, 42, 60, 62, 61, 47, 43, 45, 46, 95] : LB).length : Int) then
  bnd (nth ([33, 63, 42, 60, 62, 61, 47, 43, 45, 46, 95] : LB) i3) fun x5 =>
  if (x5.toNat : Int) = b then
   some true
  else
   chk (I64 (i3 + 1)) <|
   go4 (i3 + 1)
 else
  some false
def pO (b : Int) (go : Int → Option Bool) (v : Int) : Option Bool :=
 match v with
 | i3 => aA b go i3
def V0 (b : Int) (x2 : Bool) : Option Bool :=
 if x2 = true then
  some true
 else
  itr (pO b) LF 0
def rX (b : Int) : Option Bool :=
 if b ≥ 97 then
  if b ≤ 122 then
   V0 b true
  else
   bnd (cC b) fun x2 =>
   V0 b x2
 else
  bnd (cC b) fun x2 =>
  V0 b x2
def M6 (s : LB) (go4 : Int → Option Bool) (i3 : Int) : Option Bool :=
 if i3 < (s.length : Int) then
  bnd (nth s i3) fun x5 =>
  bnd (rX (x5.toNat : Int)) fun x6 =>
  if x6 = true then
   chk (I64 (i3 + 1)) <|
   go4 (i3 + 1)
  else
   some false
 else
  some true
def jY (s : LB) (go : Int → Option Bool) (v : Int) : Option Bool :=
 match v with
 | i3 => M6 s go i3
def F6 (s : LB) (x2 : Bool) : Option Bool :=
 if x2 = true then
  some false
 else
  itr (jY s) LF 0
def iB (s : LB) : Option Bool :=
 bnd (aW (s.length : Int) 1 16) fun x2 =>
 if x2 = true then
  bnd (nth s 0) fun x3 =>
  bnd (cC (x3.toNat : Int)) fun x4 =>
  if x4 = true then
   F6 s true
  else
   bnd (nth s 0) fun x5 =>
   if (x5.toNat : Int) = 45 then
    if (s.length : Int) > 1 then
     bnd (nth s 1) fun x6 =>
     bnd (cC (x6.toNat : Int)) fun x7 =>
     F6 s x7
    else
     F6 s false
   else
    F6 s false
 else
  F6 s true
def M7 (s : LB) (go3 : Int → Option Bool) (i2 : Int) : Option Bool :=
 if i2 < (s.length : Int) then
  bnd (nth s i2) fun x4 =>
  if (x4.toNat : Int) < 32 then
   some false
  else
   bnd (nth s i2) fun x5 =>
   if (x5.toNat : Int) > 126 then
    some false
   else
    bnd (nth s i2) fun x6 =>
    if (x6.toNat : Int) = 34 then
     some false
    else
     chk (I64 (i2 + 1)) <|
     go3 (i2 + 1)
 else
  some (decide ((s.length : Int) ≤ 20))
def rZ (s : LB) (go : Int → Option Bool) (v : Int) : Option Bool :=
 match v with
 | i2 => M7 s go i2
def iD (s : LB) : Option Bool :=
 itr (rZ s) LF 0
def rY (kind : Int) (number : Int) (text : LB) (items : Int) : Option Bool :=
 if kind = 0 then
  if number = 0 then
   some (decide (text = ([] : LB)))
  else
   some false
 else
  if kind = 1 then
   if number = 0 then
    bnd (iB text) fun x5 =>
    if x5 = true then
     some (decide (items = 0))
    else
     some false
   else
    some false
  else
   if kind = 2 then
    bnd (aW number (-999999999) 999999999) fun x5 =>
    if x5 = true then
     if text = ([] : LB) then
      some (decide (items = 0))
     else
      some false
    else
     some false
   else
    if kind = 3 then
     bnd (aW number 0 1) fun x5 =>
     if x5 = true then
      if text = ([] : LB) then
       some (decide (items = 0))
      else
       some false
     else
      some false
    else
     if kind = 4 then
      if number = 0 then
       bnd (iD text) fun x5 =>
       if x5 = true then
        some (decide (items = 0))
       else
        some false
      else
       some false
     else
      some false
def P9 (B5 : PD → Option Bool) (d : PD) (go4 : Int → Option Bool) (x3 : Int) : Option Bool :=
 if x3 < (d.items.length : Int) then
  bnd (nth d.items x3) fun x5 =>
  bnd (B5 x5) fun x6 =>
  if x6 = true then
   chk (I64 (x3 + 1)) <|
   go4 (x3 + 1)
  else
   some false
 else
  bnd (rY d.kind d.number d.text (d.items.length : Int)) fun x5 =>
  some x5
def mN (B5 : PD → Option Bool) (d : PD) (go : Int → Option Bool) (v : Int) : Option Bool :=
 match v with
 | x3 => P9 B5 d go x3
def eG (B5 : PD → Option Bool) (d : PD) : Option Bool :=
 itr (mN B5 d) LF 0
def B5 : Nat → PD → Option Bool
 | 0, _ => none
 | n + 1, d => eG (B5 n) d
def mL (d : PD) : Option Bool :=
 bnd (F0 RF d 600) fun x2 =>
 if x2.1 = true then
  bnd (B4 RF d) fun x3 =>
  if x3 ≤ 20 then
   bnd (B5 RF d) fun x4 =>
   some x4
  else
   some false
 else
  some false
def E5 (c : PC) (x2 : Bool) : Option Bool :=
 if x2 = true then
  some false
 else
  if c.kind = 1 then
   if (c.kids.length : Int) = 0 then
    if (c.params.length : Int) = 0 then
     bnd (mL c.datum) fun x3 =>
     some x3
    else
     some false
   else
    some false
  else
   if c.kind = 2 then
    if (c.kids.length : Int) = 0 then
     some (decide ((c.params.length : Int) = 0))
    else
     some false
   else
    if c.kind = 3 then
     if (c.kids.length : Int) = 0 then
      if (c.params.length : Int) = 0 then
       bnd (o4) fun x3 =>
       chk (I64 ((x3.length : Int) - 1)) <|
       bnd (aW c.number 0 ((x3.length : Int) - 1)) fun x4 =>
       some x4
      else
       some false
     else
      some false
    else
     if c.kind = 4 then
      if (c.kids.length : Int) = 1 then
       some (decide ((c.params.length : Int) = 0))
      else
       some false
     else
      if c.kind = 5 then
       if (c.kids.length : Int) = 1 then
        some (decide ((c.params.length : Int) ≤ 8))
       else
        some false
      else
       if c.kind = 6 then
        bnd (aW (c.kids.length : Int) 1 9) fun x3 =>
        if x3 = true then
         some (decide ((c.params.length : Int) = 0))
        else
         some false
       else
        if c.kind = 7 then
         if (c.kids.length : Int) = 3 then
          some (decide ((c.params.length : Int) = 0))
         else
          some false
        else
         if c.kind = 8 then
          bnd (aW (c.kids.length : Int) 2 60) fun x3 =>
          if x3 = true then
           some (decide ((c.params.length : Int) = 0))
          else
           some false
         else
          if c.kind = 9 then
           bnd (aW (c.kids.length : Int) 1 60) fun x3 =>
           if x3 = true then
            bnd (aW (c.params.length : Int) 1 60) fun x4 =>
            some x4
           else
            some false
          else
           if c.kind = 10 then
            if (c.kids.length : Int) = 1 then
             some (decide ((c.params.length : Int) = 0))
            else
             some false
           else
            if c.kind = 11 then
             if (c.kids.length : Int) = 1 then
              some (decide ((c.params.length : Int) = 1))
             else
              some false
            else
             some false
def mY (c : PC) : Option Bool :=
 if c.kind = 1 then
  if c.number = 0 then
   E5 c false
  else
   bnd (cE c) fun x2 =>
   if x2 = true then
    E5 c false
   else
    E5 c (!decide (c.kind = 3))
 else
  bnd (y7 RF c.datum (PD.mk 0 0 ([] : LB) [])) fun x2 =>
  if x2 = true then
   if c.number = 0 then
    E5 c false
   else
    bnd (cE c) fun x3 =>
    if x3 = true then
     E5 c false
    else
     E5 c (!decide (c.kind = 3))
  else
   E5 c true
def V7 (x3 : Int) (go4 : Int → Option Bool) (x6 : Bool) : Option Bool :=
 if x6 = true then
  some false
 else
  chk (I64 (x3 + 1)) <|
  go4 (x3 + 1)
def Q1 (B6 : PC → Option Bool) (c : PC) (go4 : Int → Option Bool) (x3 : Int) : Option Bool :=
 if x3 < (c.kids.length : Int) then
  bnd (nth c.kids x3) fun x5 =>
  bnd (B6 x5) fun x6 =>
  if x6 = true then
   if c.kind = 8 then
    V7 x3 go4 (decide (x5.kind = 8))
   else
    V7 x3 go4 false
  else
   V7 x3 go4 true
 else
  bnd (mY c) fun x5 =>
  some x5
def mX (B6 : PC → Option Bool) (c : PC) (go : Int → Option Bool) (v : Int) : Option Bool :=
 match v with
 | x3 => Q1 B6 c go x3
def eO (B6 : PC → Option Bool) (c : PC) : Option Bool :=
 itr (mX B6 c) LF 0
def B6 : Nat → PC → Option Bool
 | 0, _ => none
 | n + 1, c => eO (B6 n) c
def M8 (list : LI) (go3 : Int → Option Bool) (x2 : Int) : Option Bool :=
 if x2 < (list.length : Int) then
  bnd (nth list x2) fun x4 =>
  bnd (aW x4 0 99999) fun x5 =>
  if x5 = true then
   chk (0 ≤ x2 ∧ x2 ≤ list.length) <|
   bnd (G4 (list.take x2.toNat) x4) fun x6 =>
   if x6 = true then
    some false
   else
    chk (I64 (x2 + 1)) <|
    go3 (x2 + 1)
  else
   some false
 else
  some true
def kE (list : LI) (go : Int → Option Bool) (v : Int) : Option Bool :=
 match v with
 | x2 => M8 list go x2
def iI (list : LI) : Option Bool :=
 itr (kE list) LF 0
def kA (C7 : PC → LI → Option (LI)) (c : PC) (go6 : (Int × LI) → Option (LI)) (x4 : Int) (out5 : LI) : Option (LI) :=
 if x4 < (c.kids.length : Int) then
  bnd (nth c.kids x4) fun x7 =>
  bnd (C7 x7 out5) fun x8 =>
  chk (I64 (x4 + 1)) <|
  go6 ((x4 + 1), x8)
 else
  some out5
def mO (C7 : PC → LI → Option (LI)) (c : PC) (go : (Int × LI) → Option (LI)) (v : Int × LI) : Option (LI) :=
 match v with
 | (x4, out5) => kA C7 c go x4 out5
def eK (C7 : PC → LI → Option (LI)) (c : PC) (out : LI) : Option (LI) :=
 chk ((out.length + c.params.length) * 8 ≤ 140737488355328) <|
 itr (mO C7 c) LF (0, (out ++ c.params))
def C7 : Nat → PC → LI → Option (LI)
 | 0, _, _ => none
 | n + 1, c, out => eK (C7 n) c out
def U7 (globals : LI) (x9 : LI) (go11 : Int → Option Bool) (x10 : Int) : Option Bool :=
 if x10 < (x9.length : Int) then
  bnd (nth x9 x10) fun x12 =>
  bnd (G4 globals x12) fun x13 =>
  if x13 = true then
   chk (I64 (x10 + 1)) <|
   go11 (x10 + 1)
  else
   some false
 else
  some true
def jX (globals : LI) (x9 : LI) (go : Int → Option Bool) (v : Int) : Option Bool :=
 match v with
 | x10 => U7 globals x9 go x10
def wA (c : PC) (globals : LI) : Option Bool :=
 bnd (iG c) fun x3 =>
 if x3 = true then
  bnd (s6 RF c) fun x4 =>
  if x4 > 150 then
   some false
  else
   bnd (B6 RF c) fun x5 =>
   if x5 = true then
    bnd (cV globals) fun x6 =>
    bnd (C7 RF c []) fun x7 =>
    chk ((x6.length + x7.length) * 8 ≤ 140737488355328) <|
    bnd (iI (x6 ++ x7)) fun x8 =>
    if x8 = true then
     bnd (D6 c) fun x9 =>
     itr (jX globals x9) LF 0
    else
     some false
   else
    some false
 else
  some false
def mZ (c : PC) : Option Bool :=
 bnd (iG c) fun x2 =>
 if x2 = true then
  bnd (D6 c) fun x3 =>
  bnd (wA c x3) fun x4 =>
  some x4
 else
  some false
def aD (i6 : Int) (go8 : (Int × LI) → Option (LI)) (out10 : LI) : Option (LI) :=
 chk (I64 (i6 + 1)) <|
 go8 ((i6 + 1), out10)
def Q0 (n8 : PC → LI → Option (LI)) (c : PC) (go12 : (Int × LI) → Option (LI)) (x10 : Int) (out11 : LI) : Option (LI) :=
 if x10 < (c.kids.length : Int) then
  bnd (nth c.kids x10) fun x13 =>
  bnd (n8 x13 out11) fun x14 =>
  chk (I64 (x10 + 1)) <|
  go12 ((x10 + 1), x14)
 else
  some out11
def fW (n8 : PC → LI → Option (LI)) (c : PC) (go : (Int × LI) → Option (LI)) (v : Int × LI) : Option (LI) :=
 match v with
 | (x10, out11) => Q0 n8 c go x10 out11
def O6 (n8 : PC → LI → Option (LI)) (c : PC) (i6 : Int) (out7 : LI) (go8 : (Int × LI) → Option (LI)) (x9 : Bool) : Option (LI) :=
 if x9 = true then
  bnd (nth c.params i6) fun x10 =>
  bnd (G4 out7 x10) fun x11 =>
  if x11 = true then
   aD i6 go8 out7
  else
   bnd (nth c.params i6) fun x12 =>
   chk ((out7.length + ([x12] : LI).length) * 8 ≤ 140737488355328) <|
   aD i6 go8 (out7 ++ ([x12] : LI))
 else
  itr (fW n8 c) LF (0, out7)
def J0 (n8 : PC → LI → Option (LI)) (c : PC) (go8 : (Int × LI) → Option (LI)) (i6 : Int) (out7 : LI) : Option (LI) :=
 if i6 < (c.params.length : Int) then
  O6 n8 c i6 out7 go8 (decide (c.kind = 9))
 else
  O6 n8 c i6 out7 go8 false
def cD (n8 : PC → LI → Option (LI)) (c : PC) (go : (Int × LI) → Option (LI)) (v : Int × LI) : Option (LI) :=
 match v with
 | (i6, out7) => J0 n8 c go i6 out7
def V1 (n8 : PC → LI → Option (LI)) (c : PC) (out5 : LI) : Option (LI) :=
 itr (cD n8 c) LF (0, out5)
def aB (n8 : PC → LI → Option (LI)) (c : PC) (out : LI) (x4 : Bool) : Option (LI) :=
 if x4 = true then
  chk ((out.length + ([c.number] : LI).length) * 8 ≤ 140737488355328) <|
  V1 n8 c (out ++ ([c.number] : LI))
 else
  V1 n8 c out
def eM (n8 : PC → LI → Option (LI)) (c : PC) (out : LI) : Option (LI) :=
 if c.kind = 4 then
  bnd (G4 out c.number) fun x4 =>
  aB n8 c out (!x4)
 else
  aB n8 c out false
def n8 : Nat → PC → LI → Option (LI)
 | 0, _, _ => none
 | n + 1, c, out => eM (n8 n) c out
def Q9 (c : PC) : Option (LI) :=
 bnd (n8 RF c ([] : LI)) fun x2 =>
 some x2
def iK (c : PC) : Option (LI) :=
 bnd (Q9 c) fun x2 =>
 bnd (D6 c) fun x3 =>
 chk ((x2.length + x3.length) * 8 ≤ 140737488355328) <|
 some (x2 ++ x3)
def gA (c : PC) : Option Bool :=
 if c.kind = 1 then
  some (decide ((c.datum.items.length : Int) = 0))
 else
  some false
def kF (A6 : PD → List PPair → Option (PVal × List PPair)) (d : PD) (go7 : (Int × List PPair × PVal) → Option (PVal × List PPair)) (i4 : Int) (pairs5 : List PPair) (tail6 : PVal) : Option (PVal × List PPair) :=
 if i4 ≥ 0 then
  bnd (nth d.items i4) fun x8 =>
  bnd (A6 x8 pairs5) fun x9 =>
  chk ((x9.2.length + ([(PPair.mk x9.1 tail6)] : List PPair).length) * 64 ≤ 140737488355328) <|
  chk (I64 (((x9.2 ++ ([(PPair.mk x9.1 tail6)] : List PPair)).length : Int) - 1)) <|
  chk (I64 (i4 - 1)) <|
  go7 ((i4 - 1), (x9.2 ++ ([(PPair.mk x9.1 tail6)] : List PPair)), (PVal.mk 7 (((x9.2 ++ ([(PPair.mk x9.1 tail6)] : List PPair)).length : Int) - 1) ([] : LB)))
 else
  some (tail6, pairs5)
def fZ (A6 : PD → List PPair → Option (PVal × List PPair)) (d : PD) (go : (Int × List PPair × PVal) → Option (PVal × List PPair)) (v : Int × List PPair × PVal) : Option (PVal × List PPair) :=
 match v with
 | (i4, pairs5, tail6) => kF A6 d go i4 pairs5 tail6
def eP (A6 : PD → List PPair → Option (PVal × List PPair)) (d : PD) (pairs : List PPair) : Option (PVal × List PPair) :=
 if d.kind = 1 then
  some ((PVal.mk 4 0 d.text), pairs)
 else
  if d.kind = 2 then
   some ((PVal.mk 3 d.number ([] : LB)), pairs)
  else
   if d.kind = 3 then
    some ((PVal.mk 2 d.number ([] : LB)), pairs)
   else
    if d.kind = 4 then
     some ((PVal.mk 5 0 d.text), pairs)
    else
     chk (I64 ((d.items.length : Int) - 1)) <|
     itr (fZ A6 d) LF (((d.items.length : Int) - 1), pairs, (PVal.mk 1 0 ([] : LB)))
def A6 : Nat → PD → List PPair → Option (PVal × List PPair)
 | 0, _, _ => none
 | n + 1, d, pairs => eP (A6 n) d pairs
def mG (primitive : Int) : Option Int :=
 bnd (o4) fun x2 =>
 chk (I64 ((x2.length : Int) - 1)) <|
 bnd (aW primitive 0 ((x2.length : Int) - 1)) fun x3 =>
 if x3 = true then
  bnd (nth ([2, 2, 2, 2, 2, 2, 1, 1, 1, 1, 1, 2, 1, 1] : LI) primitive) fun x4 =>
  some x4
 else
  some (-1)
def iJ (x_1 : PVal) : Option Bool :=
 if x_1.kind = 2 then
  some (decide (x_1.number = 0))
 else
  some false
def bQ (b : Bool) : Option PVal :=
 if b = true then
  some (PVal.mk 2 1 ([] : LB))
 else
  some (PVal.mk 2 0 ([] : LB))
def bI (p : Int) (a : Int) (b : Int) : Option (PVal × LB) :=
 if p = 0 then
  chk (I64 (a + b)) <|
  bnd (aW (a + b) (-999999999) 999999999) fun x4 =>
  if x4 = true then
   some ((PVal.mk 3 (a + b) ([] : LB)), ([] : LB))
  else
   some ((PVal.mk 0 0 ([] : LB)), ([110, 117, 109, 98, 101, 114, 32, 116, 111, 111, 32, 108, 97, 114, 103, 101] : LB))
 else
  if p = 1 then
   chk (I64 (a - b)) <|
   bnd (aW (a - b) (-999999999) 999999999) fun x4 =>
   if x4 = true then
    some ((PVal.mk 3 (a - b) ([] : LB)), ([] : LB))
   else
    some ((PVal.mk 0 0 ([] : LB)), ([110, 117, 109, 98, 101, 114, 32, 116, 111, 111, 32, 108, 97, 114, 103, 101] : LB))
  else
   if p = 2 then
    chk (I64 (a * b)) <|
    bnd (aW (a * b) (-999999999) 999999999) fun x4 =>
    if x4 = true then
     some ((PVal.mk 3 (a * b) ([] : LB)), ([] : LB))
    else
     some ((PVal.mk 0 0 ([] : LB)), ([110, 117, 109, 98, 101, 114, 32, 116, 111, 111, 32, 108, 97, 114, 103, 101] : LB))
   else
    if p = 3 then
     bnd (bQ (decide (a = b))) fun x4 =>
     some (x4, ([] : LB))
    else
     bnd (bQ (decide (a < b))) fun x4 =>
     some (x4, ([] : LB))
def F9 (p : Int) (args : List PVal) (pairs : List PPair) (x5 : LB) (x6 : PVal) (x8 : Bool) : Option (PVal × LB) :=
 if x8 = true then
  if x6.kind = 7 then
   if p = 6 then
    bnd (nth pairs x6.number) fun x9 =>
    some (x9.h, ([] : LB))
   else
    bnd (nth pairs x6.number) fun x9 =>
    some (x9.t, ([] : LB))
  else
   some ((PVal.mk 0 0 ([] : LB)), (x5 ++ ([58, 32, 98, 97, 100, 32, 97, 114, 103, 117, 109, 101, 110, 116] : LB)))
 else
  if p = 8 then
   bnd (bQ (decide (x6.kind = 1))) fun x9 =>
   some (x9, ([] : LB))
  else
   if p = 9 then
    bnd (bQ (decide (x6.kind = 7))) fun x9 =>
    some (x9, ([] : LB))
   else
    if p = 10 then
     bnd (bQ (decide (x6.kind = 3))) fun x9 =>
     some (x9, ([] : LB))
    else
     if p = 11 then
      bnd (nth args 1) fun x9 =>
      bnd (bQ (decide (x6 = x9))) fun x10 =>
      some (x10, ([] : LB))
     else
      bnd (iJ x6) fun x9 =>
      bnd (bQ x9) fun x10 =>
      some (x10, ([] : LB))
def t0 (p : Int) (args : List PVal) (pairs : List PPair) (x5 : LB) (x6 : PVal) (x7 : Bool) : Option (PVal × LB) :=
 if x7 = true then
  if x6.kind = 3 then
   bnd (nth args 1) fun x8 =>
   if x8.kind = 3 then
    bnd (nth args 1) fun x9 =>
    bnd (bI p x6.number x9.number) fun x10 =>
    some (x10.1, x10.2)
   else
    some ((PVal.mk 0 0 ([] : LB)), (x5 ++ ([58, 32, 98, 97, 100, 32, 97, 114, 103, 117, 109, 101, 110, 116] : LB)))
  else
   some ((PVal.mk 0 0 ([] : LB)), (x5 ++ ([58, 32, 98, 97, 100, 32, 97, 114, 103, 117, 109, 101, 110, 116] : LB)))
 else
  if p = 6 then
   F9 p args pairs x5 x6 true
  else
   F9 p args pairs x5 x6 (decide (p = 7))
def u7 (p : Int) (args : List PVal) (pairs : List PPair) : Option (PVal × LB) :=
 bnd (o4) fun x4 =>
 bnd (nth x4 p) fun x5 =>
 chk (x5.length + ([58, 32, 98, 97, 100, 32, 97, 114, 103, 117, 109, 101, 110, 116] : LB).length ≤ 9223372036854775807) <|
 bnd (nth args 0) fun x6 =>
 if p = 0 then
  t0 p args pairs x5 x6 true
 else
  if p = 1 then
   t0 p args pairs x5 x6 true
  else
   if p = 2 then
    t0 p args pairs x5 x6 true
   else
    if p = 3 then
     t0 p args pairs x5 x6 true
    else
     t0 p args pairs x5 x6 (decide (p = 4))
def iL (x_1 : PVal) : Option (PD × Bool) :=
 if x_1.kind = 1 then
  some ((PD.mk 0 0 ([] : LB) []), true)
 else
  if x_1.kind = 2 then
   some ((PD.mk 3 x_1.number ([] : LB) []), true)
  else
   if x_1.kind = 3 then
    some ((PD.mk 2 x_1.number ([] : LB) []), true)
   else
    some ((PD.mk 0 0 ([] : LB) []), false)
def cF (c : PC) (x3 : PC) (go6 : (Int × List PVal) → Option (PC × Bool)) (x4 : Int) (args5 : List PVal) : Option (PC × Bool) :=
 if x4 < ((c.kids.drop (1 : Int).toNat).length : Int) then
  bnd (nth (c.kids.drop (1 : Int).toNat) x4) fun x7 =>
  bnd (gA x7) fun x8 =>
  if x8 = true then
   bnd (A6 RF x7.datum []) fun x9 =>
   chk ((args5.length + ([x9.1] : List PVal).length) * 32 ≤ 140737488355328) <|
   chk (I64 (x4 + 1)) <|
   go6 ((x4 + 1), (args5 ++ ([x9.1] : List PVal)))
  else
   some ((PC.mk 0 0 [] (PD.mk 0 0 ([] : LB) []) []), false)
 else
  if x3.number = 5 then
   some ((PC.mk 0 0 [] (PD.mk 0 0 ([] : LB) []) []), false)
  else
   if x3.number = 13 then
    some ((PC.mk 0 0 [] (PD.mk 0 0 ([] : LB) []) []), false)
   else
    bnd (mG x3.number) fun x7 =>
    if (args5.length : Int) = x7 then
     bnd (u7 x3.number args5 []) fun x8 =>
     bnd (iL x8.1) fun x9 =>
     if x8.2 = ([] : LB) then
      if x9.2 = true then
       some ((PC.mk 1 0 [] x9.1 []), true)
      else
       some ((PC.mk 0 0 [] (PD.mk 0 0 ([] : LB) []) []), false)
     else
      some ((PC.mk 0 0 [] (PD.mk 0 0 ([] : LB) []) []), false)
    else
     some ((PC.mk 0 0 [] (PD.mk 0 0 ([] : LB) []) []), false)
def qB (c : PC) (x3 : PC) (go : (Int × List PVal) → Option (PC × Bool)) (v : Int × List PVal) : Option (PC × Bool) :=
 match v with
 | (x4, args5) => cF c x3 go x4 args5
def sD (c : PC) : Option (PC × Bool) :=
 if c.kind = 6 then
  bnd (nth c.kids 0) fun x2 =>
  if x2.kind = 3 then
   bnd (nth c.kids 0) fun x3 =>
   chk (0 ≤ (1 : Int) ∧ (1 : Int) ≤ c.kids.length) <|
   itr (qB c x3) LF (0, ([] : List PVal))
  else
   some ((PC.mk 0 0 [] (PD.mk 0 0 ([] : LB) []) []), false)
 else
  some ((PC.mk 0 0 [] (PD.mk 0 0 ([] : LB) []) []), false)
def U8 (D0 : PD → Option PD) (d : PD) (go5 : (Int × List PD) → Option PD) (x3 : Int) (x4 : List PD) : Option PD :=
 if x3 < (d.items.length : Int) then
  bnd (nth d.items x3) fun x6 =>
  bnd (D0 x6) fun x7 =>
  chk ((x4.length + ([x7] : List PD).length) * 56 ≤ 140737488355328) <|
  chk (I64 (x3 + 1)) <|
  go5 ((x3 + 1), (x4 ++ ([x7] : List PD)))
 else
  some (PD.mk d.kind d.number d.text x4)
def pM (D0 : PD → Option PD) (d : PD) (go : (Int × List PD) → Option PD) (v : Int × List PD) : Option PD :=
 match v with
 | (x3, x4) => U8 D0 d go x3 x4
def iC (D0 : PD → Option PD) (d : PD) : Option PD :=
 itr (pM D0 d) LF (0, [])
def D0 : Nat → PD → Option PD
 | 0, _ => none
 | n + 1, d => iC (D0 n) d
def V2 (z9 : PC → Option PC) (c : PC) (x3 : LI) (x4 : PD) (go7 : (Int × List PC) → Option PC) (x5 : Int) (x6 : List PC) : Option PC :=
 if x5 < (c.kids.length : Int) then
  bnd (nth c.kids x5) fun x8 =>
  bnd (z9 x8) fun x9 =>
  chk ((x6.length + ([x9] : List PC).length) * 120 ≤ 140737488355328) <|
  chk (I64 (x5 + 1)) <|
  go7 ((x5 + 1), (x6 ++ ([x9] : List PC)))
 else
  some (PC.mk c.kind c.number x3 x4 x6)
def pS (z9 : PC → Option PC) (c : PC) (x3 : LI) (x4 : PD) (go : (Int × List PC) → Option PC) (v : Int × List PC) : Option PC :=
 match v with
 | (x5, x6) => V2 z9 c x3 x4 go x5 x6
def iE (z9 : PC → Option PC) (c : PC) : Option PC :=
 bnd (cV c.params) fun x3 =>
 bnd (D0 RF c.datum) fun x4 =>
 itr (pS z9 c x3 x4) LF (0, [])
def z9 : Nat → PC → Option PC
 | 0, _ => none
 | n + 1, c => iE (z9 n) c
def dC (c : PC) (boxed : LI) : Option Bool :=
 bnd (gA c) fun x3 =>
 if x3 = true then
  some true
 else
  if c.kind = 3 then
   some true
  else
   if c.kind = 2 then
    bnd (G4 boxed c.number) fun x4 =>
    some (!x4)
   else
    some false
def D8 (m6 : PC → Int → PC → Option PC) (c : PC) (x_1 : Int) (x_2 : PC) (x6 : PC) (go9 : (Int × List PC) → Option PC) (x7 : Int) (x8 : List PC) : Option PC :=
 if x7 < (x6.kids.length : Int) then
  bnd (nth c.kids x7) fun x10 =>
  bnd (m6 x10 x_1 x_2) fun x11 =>
  bnd (nth x8 x7) fun x12 =>
  chk (I64 (x7 + 1)) <|
  go9 ((x7 + 1), (x8.set x7.toNat x11))
 else
  some (PC.mk x6.kind x6.number x6.params x6.datum x8)
def W8 (m6 : PC → Int → PC → Option PC) (c : PC) (x_1 : Int) (x_2 : PC) (x6 : PC) (go : (Int × List PC) → Option PC) (v : Int × List PC) : Option PC :=
 match v with
 | (x7, x8) => D8 m6 c x_1 x_2 x6 go x7 x8
def J6 (m6 : PC → Int → PC → Option PC) (c : PC) (x_1 : Int) (x_2 : PC) (x5 : Bool) : Option PC :=
 if x5 = true then
  bnd (z9 RF x_2) fun x6 =>
  some x6
 else
  bnd (z9 RF c) fun x6 =>
  itr (W8 m6 c x_1 x_2 x6) LF (0, x6.kids)
def R1 (m6 : PC → Int → PC → Option PC) (c : PC) (x_1 : Int) (x_2 : PC) : Option PC :=
 if c.kind = 2 then
  J6 m6 c x_1 x_2 (decide (c.number = x_1))
 else
  J6 m6 c x_1 x_2 false
def m6 : Nat → PC → Int → PC → Option PC
 | 0, _, _, _ => none
 | n + 1, c, x_1, x_2 => R1 (m6 n) c x_1 x_2
def V8 (c : PC) (x5 : PC) (go12 : (Int × PC) → Option (PC × Bool)) (x10 : Int) (body11 : PC) : Option (PC × Bool) :=
 if x10 < (x5.params.length : Int) then
  bnd (nth x5.params x10) fun x13 =>
  chk (I64 (x10 + 1)) <|
  bnd (nth c.kids (x10 + 1)) fun x14 =>
  bnd (m6 RF body11 x13 x14) fun x15 =>
  chk (I64 (x10 + 1)) <|
  go12 ((x10 + 1), x15)
 else
  some (body11, true)
def kI (c : PC) (x5 : PC) (go : (Int × PC) → Option (PC × Bool)) (v : Int × PC) : Option (PC × Bool) :=
 match v with
 | (x10, body11) => V8 c x5 go x10 body11
def nA (c : PC) (boxed : LI) (x5 : PC) (go7 : Int → Option (PC × Bool)) (x6 : Int) : Option (PC × Bool) :=
 if x6 < (x5.params.length : Int) then
  bnd (nth x5.params x6) fun x8 =>
  bnd (G4 boxed x8) fun x9 =>
  if x9 = true then
   some ((PC.mk 0 0 [] (PD.mk 0 0 ([] : LB) []) []), false)
  else
   chk (I64 (x6 + 1)) <|
   bnd (nth c.kids (x6 + 1)) fun x10 =>
   bnd (dC x10 boxed) fun x11 =>
   if x11 = true then
    chk (I64 (x6 + 1)) <|
    go7 (x6 + 1)
   else
    some ((PC.mk 0 0 [] (PD.mk 0 0 ([] : LB) []) []), false)
 else
  bnd (nth x5.kids 0) fun x8 =>
  bnd (z9 RF x8) fun x9 =>
  itr (kI c x5) LF (0, x9)
def pZ (c : PC) (boxed : LI) (x5 : PC) (go : Int → Option (PC × Bool)) (v : Int) : Option (PC × Bool) :=
 match v with
 | x6 => nA c boxed x5 go x6
def kG (c : PC) (boxed : LI) : Option (PC × Bool) :=
 if c.kind = 6 then
  bnd (nth c.kids 0) fun x3 =>
  if x3.kind = 5 then
   bnd (nth c.kids 0) fun x4 =>
   chk (I64 ((c.kids.length : Int) - 1)) <|
   if (x4.params.length : Int) = ((c.kids.length : Int) - 1) then
    bnd (nth c.kids 0) fun x5 =>
    itr (pZ c boxed x5) LF 0
   else
    some ((PC.mk 0 0 [] (PD.mk 0 0 ([] : LB) []) []), false)
  else
   some ((PC.mk 0 0 [] (PD.mk 0 0 ([] : LB) []) []), false)
 else
  some ((PC.mk 0 0 [] (PD.mk 0 0 ([] : LB) []) []), false)
def bG (x2 : Int) (go4 : (Int × List PC) → Option PC) (out5 : List PC) : Option PC :=
 chk (I64 (x2 + 1)) <|
 go4 ((x2 + 1), out5)
def V4 (list : List PC) (go4 : (Int × List PC) → Option PC) (x2 : Int) (out3 : List PC) : Option PC :=
 if x2 < (list.length : Int) then
  bnd (nth list x2) fun x5 =>
  if x5.kind = 8 then
   chk ((out3.length + x5.kids.length) * 120 ≤ 140737488355328) <|
   bG x2 go4 (out3 ++ x5.kids)
  else
   chk ((out3.length + ([x5] : List PC).length) * 120 ≤ 140737488355328) <|
   bG x2 go4 (out3 ++ ([x5] : List PC))
 else
  if (out3.length : Int) = 1 then
   bnd (nth out3 0) fun x5 =>
   some x5
  else
   some (PC.mk 8 0 [] (PD.mk 0 0 ([] : LB) []) out3)
def pT (list : List PC) (go : (Int × List PC) → Option PC) (v : Int × List PC) : Option PC :=
 match v with
 | (x2, out3) => V4 list go x2 out3
def kC (list : List PC) : Option PC :=
 itr (pT list) LF (0, ([] : List PC))
def bJ (x2 : Int) (go4 : (Int × List PC) → Option (PC × Bool)) (kids5 : List PC) : Option (PC × Bool) :=
 chk (I64 (x2 + 1)) <|
 go4 ((x2 + 1), kids5)
def V9 (x2 : Int) (kids3 : List PC) (go4 : (Int × List PC) → Option (PC × Bool)) (x5 : PC) (x6 : Bool) : Option (PC × Bool) :=
 if x6 = true then
  bnd (z9 RF x5) fun x7 =>
  chk ((kids3.length + ([x7] : List PC).length) * 120 ≤ 140737488355328) <|
  bJ x2 go4 (kids3 ++ ([x7] : List PC))
 else
  bJ x2 go4 kids3
def W0 (c : PC) (go4 : (Int × List PC) → Option (PC × Bool)) (x2 : Int) (kids3 : List PC) : Option (PC × Bool) :=
 if x2 < (c.kids.length : Int) then
  bnd (nth c.kids x2) fun x5 =>
  chk (I64 ((c.kids.length : Int) - 1)) <|
  if x2 = ((c.kids.length : Int) - 1) then
   V9 x2 kids3 go4 x5 true
  else
   if x5.kind = 1 then
    V9 x2 kids3 go4 x5 false
   else
    if x5.kind = 3 then
     V9 x2 kids3 go4 x5 false
    else
     V9 x2 kids3 go4 x5 (!decide (x5.kind = 5))
 else
  bnd (kC kids3) fun x5 =>
  some (x5, (decide ((kids3.length : Int) < (c.kids.length : Int))))
def qA (c : PC) (go : (Int × List PC) → Option (PC × Bool)) (v : Int × List PC) : Option (PC × Bool) :=
 match v with
 | (x2, kids3) => W0 c go x2 kids3
def gB (c : PC) : Option (PC × Bool) :=
 if c.kind = 8 then
  itr (qA c) LF (0, ([] : List PC))
 else
  some ((PC.mk 0 0 [] (PD.mk 0 0 ([] : LB) []) []), false)
def W1 (c : PC) (x5 : Bool) : Option (PC × Bool) :=
 if x5 = true then
  bnd (nth c.kids 0) fun x6 =>
  bnd (A6 RF x6.datum []) fun x7 =>
  bnd (iJ x7.1) fun x8 =>
  if x8 = true then
   bnd (nth c.kids 2) fun x9 =>
   bnd (z9 RF x9) fun x10 =>
   some (x10, true)
  else
   bnd (nth c.kids 1) fun x9 =>
   bnd (z9 RF x9) fun x10 =>
   some (x10, true)
 else
  bnd (gB c) fun x6 =>
  some (x6.1, x6.2)
def sE (c : PC) (boxed : LI) : Option (PC × Bool) :=
 bnd (sD c) fun x3 =>
 if x3.2 = true then
  some (x3.1, true)
 else
  bnd (kG c boxed) fun x4 =>
  if x4.2 = true then
   some (x4.1, true)
  else
   if c.kind = 7 then
    bnd (nth c.kids 0) fun x5 =>
    bnd (gA x5) fun x6 =>
    W1 c x6
   else
    W1 c false
def Z5 (c : PC) (boxed : LI) (x_1 : Int) (x8 : Int) (out11 : Int) (out12 : Int) (out13 : LI) (out14 : Int) (out15 : Int) (out16 : LB) (out17 : List PD) (out18 : List PC) (x19 : Bool) : Option (PC × Int) :=
 if x19 = true then
  bnd (z9 RF c) fun x20 =>
  some (x20, x_1)
 else
  bnd (sE (PC.mk out11 out12 out13 (PD.mk out14 out15 out16 out17) out18) boxed) fun x20 =>
  if x20.2 = true then
   chk (I64 (x8 + 1)) <|
   some (x20.1, (x8 + 1))
  else
   some ((PC.mk out11 out12 out13 (PD.mk out14 out15 out16 out17) out18), x8)
def bK (c : PC) (boxed : LI) (x_1 : Int) (x8 : Int) (out11 : Int) (out12 : Int) (out13 : LI) (out14 : Int) (out15 : Int) (out16 : LB) (out17 : List PD) (out18 : List PC) : Option (PC × Int) :=
 if out11 = 8 then
  Z5 c boxed x_1 x8 out11 out12 out13 out14 out15 out16 out17 out18 (decide ((out18.length : Int) > 60))
 else
  Z5 c boxed x_1 x8 out11 out12 out13 out14 out15 out16 out17 out18 false
def cI (D7 : PC → LI → Int → Option (PC × Int)) (c : PC) (boxed : LI) (x_1 : Int) (x5 : LI) (x6 : PD) (go10 : (Int × Int × List PC) → Option (PC × Int)) (x7 : Int) (x8 : Int) (x9 : List PC) : Option (PC × Int) :=
 if x7 < (c.kids.length : Int) then
  bnd (nth c.kids x7) fun x11 =>
  bnd (D7 x11 boxed x8) fun x12 =>
  chk ((x9.length + ([x12.1] : List PC).length) * 120 ≤ 140737488355328) <|
  chk (I64 (x7 + 1)) <|
  go10 ((x7 + 1), x12.2, (x9 ++ ([x12.1] : List PC)))
 else
  if c.kind = 8 then
   bnd (kC x9) fun x11 =>
   bK c boxed x_1 x8 x11.kind x11.number x11.params x11.datum.kind x11.datum.number x11.datum.text x11.datum.items x11.kids
  else
   bK c boxed x_1 x8 c.kind c.number x5 x6.kind x6.number x6.text x6.items x9
def qC (D7 : PC → LI → Int → Option (PC × Int)) (c : PC) (boxed : LI) (x_1 : Int) (x5 : LI) (x6 : PD) (go : (Int × Int × List PC) → Option (PC × Int)) (v : Int × Int × List PC) : Option (PC × Int) :=
 match v with
 | (x7, x8, x9) => cI D7 c boxed x_1 x5 x6 go x7 x8 x9
def iM (D7 : PC → LI → Int → Option (PC × Int)) (c : PC) (boxed : LI) (x_1 : Int) : Option (PC × Int) :=
 bnd (cV c.params) fun x5 =>
 bnd (D0 RF c.datum) fun x6 =>
 itr (qC D7 c boxed x_1 x5 x6) LF (0, x_1, [])
def D7 : Nat → PC → LI → Int → Option (PC × Int)
 | 0, _, _, _ => none
 | n + 1, c, boxed, x_1 => iM (D7 n) c boxed x_1
end Go.Abs

namespace Go.Abs
set_option linter.unusedVariables false
def R0 (globals : LI) (go7 : (Int × PC) → Option (PC × Int)) (total5 : Int) (c6 : PC) : Option (PC × Int) :=
 bnd (iK c6) fun x8 =>
 chk ((x8.length + globals.length) * 8 ≤ 140737488355328) <|
 bnd (D7 RF c6 (x8 ++ globals) 0) fun x9 =>
 chk (I64 (total5 + x9.2)) <|
 if x9.2 = 0 then
  some (x9.1, (total5 + x9.2))
 else
  go7 ((total5 + x9.2), x9.1)
def eQ (globals : LI) (go : (Int × PC) → Option (PC × Int)) (v : Int × PC) : Option (PC × Int) :=
 match v with
 | (total5, c6) => R0 globals go total5 c6
def cG (c : PC) (globals : LI) : Option (PC × Int) :=
 bnd (iK c) fun x3 =>
 chk ((x3.length + globals.length) * 8 ≤ 140737488355328) <|
 bnd (D7 RF c (x3 ++ globals) 0) fun x4 =>
 chk (I64 (0 + x4.2)) <|
 if x4.2 = 0 then
  some (x4.1, (0 + x4.2))
 else
  itr (eQ globals) LF ((0 + x4.2), x4.1)
def X6 (c : PC) : Option (PC × Int) :=
 bnd (mZ c) fun x2 =>
 if x2 = true then
  bnd (cG c []) fun x3 =>
  some (x3.1, x3.2)
 else
  some ((PC.mk 0 0 [] (PD.mk 0 0 ([] : LB) []) []), 0)
end Go.Abs

namespace Go.Abs
set_option linter.unusedVariables false
def sP (a : LI) (left : Int) : Option Int :=
 chk (I64 (left - (a.length : Int))) <|
 if (left - (a.length : Int)) < 0 then
  some (-1)
 else
  some (left - (a.length : Int))
def fC (w7 : PD → Int → Option Int) (B0 : List PD → Int → Option Int) (a : PD) (left : Int) : Option Int :=
 chk (I64 (left - (a.text.length : Int))) <|
 if (left - (a.text.length : Int)) < 0 then
  some (-1)
 else
  bnd (B0 a.items (left - (a.text.length : Int))) fun x5 =>
  if x5 < 0 then
   some (-1)
  else
   some x5
def gS (w7 : PD → Int → Option Int) (a : List PD) (go7 : (Int × Int) → Option Int) (left5 : Int) (i6 : Int) : Option Int :=
 if i6 < (a.length : Int) then
  bnd (nth a i6) fun x8 =>
  bnd (w7 x8 left5) fun x9 =>
  if x9 < 0 then
   some (-1)
  else
   chk (I64 (i6 + 1)) <|
   go7 (x9, (i6 + 1))
 else
  some left5
def kY (w7 : PD → Int → Option Int) (a : List PD) (go : (Int × Int) → Option Int) (v : Int × Int) : Option Int :=
 match v with
 | (left5, i6) => gS w7 a go left5 i6
def cN (w7 : PD → Int → Option Int) (B0 : List PD → Int → Option Int) (a : List PD) (left : Int) : Option Int :=
 chk (I64 (left - (a.length : Int))) <|
 if (left - (a.length : Int)) < 0 then
  some (-1)
 else
  itr (kY w7 a) LF ((left - (a.length : Int)), 0)
mutual
def w7 : Nat → PD → Int → Option Int
 | 0, _, _ => none
 | n + 1, a, left => fC (w7 n) (B0 n) a left
def B0 : Nat → List PD → Int → Option Int
 | 0, _, _ => none
 | n + 1, a, left => cN (w7 n) (B0 n) a left
end
def iT (A1 : PC → Int → Option Int) (E3 : List PC → Int → Option Int) (a : PC) (left : Int) : Option Int :=
 bnd (sP a.params left) fun x5 =>
 if x5 < 0 then
  some (-1)
 else
  bnd (w7 RF a.datum x5) fun x6 =>
  if x6 < 0 then
   some (-1)
  else
   bnd (E3 a.kids x6) fun x7 =>
   if x7 < 0 then
    some (-1)
   else
    some x7
def kX (A1 : PC → Int → Option Int) (a : List PC) (go7 : (Int × Int) → Option Int) (left5 : Int) (i6 : Int) : Option Int :=
 if i6 < (a.length : Int) then
  bnd (nth a i6) fun x8 =>
  bnd (A1 x8 left5) fun x9 =>
  if x9 < 0 then
   some (-1)
  else
   chk (I64 (i6 + 1)) <|
   go7 (x9, (i6 + 1))
 else
  some left5
def nG (A1 : PC → Int → Option Int) (a : List PC) (go : (Int × Int) → Option Int) (v : Int × Int) : Option Int :=
 match v with
 | (left5, i6) => kX A1 a go left5 i6
def fA (A1 : PC → Int → Option Int) (E3 : List PC → Int → Option Int) (a : List PC) (left : Int) : Option Int :=
 chk (I64 (left - (a.length : Int))) <|
 if (left - (a.length : Int)) < 0 then
  some (-1)
 else
  itr (nG A1 a) LF ((left - (a.length : Int)), 0)
mutual
def A1 : Nat → PC → Int → Option Int
 | 0, _, _ => none
 | n + 1, a, left => iT (A1 n) (E3 n) a left
def E3 : Nat → List PC → Int → Option Int
 | 0, _, _ => none
 | n + 1, a, left => fA (A1 n) (E3 n) a left
end
def nJ (a : LI) (go4 : (Int × LI) → Option (LI)) (i2 : Int) (out3 : LI) : Option (LI) :=
 if i2 < (a.length : Int) then
  bnd (nth a i2) fun x5 =>
  bnd (nth out3 i2) fun x6 =>
  chk (I64 (i2 + 1)) <|
  go4 ((i2 + 1), (out3.set i2.toNat x5))
 else
  some out3
def qJ (a : LI) (go : (Int × LI) → Option (LI)) (v : Int × LI) : Option (LI) :=
 match v with
 | (i2, out3) => nJ a go i2 out3
def wC (a : LI) : Option (LI) :=
 chk (0 ≤ (a.length : Int) ∧ (8 : Nat) * (a.length : Int) ≤ 281474976710656 ∧ (a.length : Int) ≤ 281474976710656) <|
 itr (qJ a) LF (0, (List.replicate (a.length : Int).toNat (0 : Int)))
def fE (v4 : PD → Option PD) (B1 : List PD → Option (List PD)) (a : PD) : Option PD :=
 bnd (B1 a.items) fun x4 =>
 some (PD.mk a.kind a.number a.text x4)
def gT (v4 : PD → Option PD) (a : List PD) (go6 : (Int × List PD) → Option (List PD)) (i4 : Int) (out5 : List PD) : Option (List PD) :=
 if i4 < (a.length : Int) then
  bnd (nth a i4) fun x7 =>
  bnd (v4 x7) fun x8 =>
  bnd (nth out5 i4) fun x9 =>
  chk (I64 (i4 + 1)) <|
  go6 ((i4 + 1), (out5.set i4.toNat x8))
 else
  some out5
def lA (v4 : PD → Option PD) (a : List PD) (go : (Int × List PD) → Option (List PD)) (v : Int × List PD) : Option (List PD) :=
 match v with
 | (i4, out5) => gT v4 a go i4 out5
def cO (v4 : PD → Option PD) (B1 : List PD → Option (List PD)) (a : List PD) : Option (List PD) :=
 chk (0 ≤ (a.length : Int) ∧ (56 : Nat) * (a.length : Int) ≤ 281474976710656 ∧ (a.length : Int) ≤ 281474976710656) <|
 itr (lA v4 a) LF (0, (List.replicate (a.length : Int).toNat ((PD.mk 0 0 ([] : LB) []) : PD)))
mutual
def v4 : Nat → PD → Option PD
 | 0, _ => none
 | n + 1, a => fE (v4 n) (B1 n) a
def B1 : Nat → List PD → Option (List PD)
 | 0, _ => none
 | n + 1, a => cO (v4 n) (B1 n) a
end
def iU (y8 : PC → Option PC) (E4 : List PC → Option (List PC)) (a : PC) : Option PC :=
 bnd (wC a.params) fun x4 =>
 bnd (v4 RF a.datum) fun x5 =>
 bnd (E4 a.kids) fun x6 =>
 some (PC.mk a.kind a.number x4 x5 x6)
def kZ (y8 : PC → Option PC) (a : List PC) (go6 : (Int × List PC) → Option (List PC)) (i4 : Int) (out5 : List PC) : Option (List PC) :=
 if i4 < (a.length : Int) then
  bnd (nth a i4) fun x7 =>
  bnd (y8 x7) fun x8 =>
  bnd (nth out5 i4) fun x9 =>
  chk (I64 (i4 + 1)) <|
  go6 ((i4 + 1), (out5.set i4.toNat x8))
 else
  some out5
def nI (y8 : PC → Option PC) (a : List PC) (go : (Int × List PC) → Option (List PC)) (v : Int × List PC) : Option (List PC) :=
 match v with
 | (i4, out5) => kZ y8 a go i4 out5
def fD (y8 : PC → Option PC) (E4 : List PC → Option (List PC)) (a : List PC) : Option (List PC) :=
 chk (0 ≤ (a.length : Int) ∧ (120 : Nat) * (a.length : Int) ≤ 281474976710656 ∧ (a.length : Int) ≤ 281474976710656) <|
 itr (nI y8 a) LF (0, (List.replicate (a.length : Int).toNat ((PC.mk 0 0 [] (PD.mk 0 0 ([] : LB) []) []) : PC)))
mutual
def y8 : Nat → PC → Option PC
 | 0, _ => none
 | n + 1, a => iU (y8 n) (E4 n) a
def E4 : Nat → List PC → Option (List PC)
 | 0, _ => none
 | n + 1, a => fD (y8 n) (E4 n) a
end
def nD (a : LI) (b : LI) (go4 : Int → Option Bool) (i3 : Int) : Option Bool :=
 if i3 < (a.length : Int) then
  bnd (nth a i3) fun x5 =>
  bnd (nth b i3) fun x6 =>
  if x5 = x6 then
   chk (I64 (i3 + 1)) <|
   go4 (i3 + 1)
  else
   some false
 else
  some true
def qG (a : LI) (b : LI) (go : Int → Option Bool) (v : Int) : Option Bool :=
 match v with
 | i3 => nD a b go i3
def wB (a : LI) (b : LI) : Option Bool :=
 if (a.length : Int) = (b.length : Int) then
  itr (qG a b) LF 0
 else
  some false
def eV (u9 : PD → PD → Option Bool) (A9 : List PD → List PD → Option Bool) (a : PD) (b : PD) : Option Bool :=
 if a.kind = b.kind then
  if a.number = b.number then
   if a.text = b.text then
    bnd (A9 a.items b.items) fun x5 =>
    if x5 = true then
     some true
    else
     some false
   else
    some false
  else
   some false
 else
  some false
def gN (u9 : PD → PD → Option Bool) (a : List PD) (b : List PD) (go6 : Int → Option Bool) (i5 : Int) : Option Bool :=
 if i5 < (a.length : Int) then
  bnd (nth a i5) fun x7 =>
  bnd (nth b i5) fun x8 =>
  bnd (u9 x7 x8) fun x9 =>
  if x9 = true then
   chk (I64 (i5 + 1)) <|
   go6 (i5 + 1)
  else
   some false
 else
  some true
def kQ (u9 : PD → PD → Option Bool) (a : List PD) (b : List PD) (go : Int → Option Bool) (v : Int) : Option Bool :=
 match v with
 | i5 => gN u9 a b go i5
def cM (u9 : PD → PD → Option Bool) (A9 : List PD → List PD → Option Bool) (a : List PD) (b : List PD) : Option Bool :=
 if (a.length : Int) = (b.length : Int) then
  itr (kQ u9 a b) LF 0
 else
  some false
mutual
def u9 : Nat → PD → PD → Option Bool
 | 0, _, _ => none
 | n + 1, a, b => eV (u9 n) (A9 n) a b
def A9 : Nat → List PD → List PD → Option Bool
 | 0, _, _ => none
 | n + 1, a, b => cM (u9 n) (A9 n) a b
end
def iR (z6 : PC → PC → Option Bool) (D9 : List PC → List PC → Option Bool) (a : PC) (b : PC) : Option Bool :=
 if a.kind = b.kind then
  if a.number = b.number then
   bnd (wB a.params b.params) fun x5 =>
   if x5 = true then
    bnd (u9 RF a.datum b.datum) fun x6 =>
    if x6 = true then
     bnd (D9 a.kids b.kids) fun x7 =>
     if x7 = true then
      some true
     else
      some false
    else
     some false
   else
    some false
  else
   some false
 else
  some false
def kO (z6 : PC → PC → Option Bool) (a : List PC) (b : List PC) (go6 : Int → Option Bool) (i5 : Int) : Option Bool :=
 if i5 < (a.length : Int) then
  bnd (nth a i5) fun x7 =>
  bnd (nth b i5) fun x8 =>
  bnd (z6 x7 x8) fun x9 =>
  if x9 = true then
   chk (I64 (i5 + 1)) <|
   go6 (i5 + 1)
  else
   some false
 else
  some true
def nC (z6 : PC → PC → Option Bool) (a : List PC) (b : List PC) (go : Int → Option Bool) (v : Int) : Option Bool :=
 match v with
 | i5 => kO z6 a b go i5
def eT (z6 : PC → PC → Option Bool) (D9 : List PC → List PC → Option Bool) (a : List PC) (b : List PC) : Option Bool :=
 if (a.length : Int) = (b.length : Int) then
  itr (nC z6 a b) LF 0
 else
  some false
mutual
def z6 : Nat → PC → PC → Option Bool
 | 0, _, _ => none
 | n + 1, a, b => iR (z6 n) (D9 n) a b
def D9 : Nat → List PC → List PC → Option Bool
 | 0, _, _ => none
 | n + 1, a, b => eT (z6 n) (D9 n) a b
end
def N0 (go6 : (Int × Int × LI) → Option (Int × LI)) (k3 : Int) (i4 : Int) (a5 : LI) : Option (Int × LI) :=
 if i4 < (a5.length : Int) then
  bnd (nth a5 i4) fun x7 =>
  chk (I64 (k3 + 1)) <|
  chk (I64 (i4 + 1)) <|
  go6 ((k3 + 1), (i4 + 1), (a5.set i4.toNat k3))
 else
  some (k3, a5)
def kU (go : (Int × Int × LI) → Option (Int × LI)) (v : Int × Int × LI) : Option (Int × LI) :=
 match v with
 | (k3, i4, a5) => N0 go k3 i4 a5
def bO (a : LI) (k : Int) : Option (Int × LI) :=
 itr kU LF (k, 0, a)
def X9 (go4 : (Int × LB) → Option (LB)) (k2 : Int) (out3 : LB) : Option (LB) :=
 if k2 > 0 then
  chk (0 ≤ k2 ∧ k2 ≤ 9223372036854775807 ∧ (0 : Int) < 10) <|
  chk (I64 (48 + (k2 % 10))) <|
  chk (0 ≤ (48 + (k2 % 10)) ∧ (48 + (k2 % 10)) ≤ 255) <|
  chk (([(UInt8.ofNat (48 + (k2 % 10)).toNat)] : LB).length + out3.length ≤ 9223372036854775807) <|
  chk (0 ≤ k2 ∧ k2 ≤ 9223372036854775807 ∧ (0 : Int) < 10) <|
  go4 ((k2 / 10), (([(UInt8.ofNat (48 + (k2 % 10)).toNat)] : LB) ++ out3))
 else
  chk (([109] : LB).length + out3.length ≤ 9223372036854775807) <|
  some (([109] : LB) ++ out3)
def kV (go : (Int × LB) → Option (LB)) (v : Int × LB) : Option (LB) :=
 match v with
 | (k2, out3) => X9 go k2 out3
def R7 (k : Int) : Option (LB) :=
 if k ≤ 0 then
  some ([109, 48] : LB)
 else
  itr kV LF (k, ([] : LB))
def I1 (s9 : List PD → Int → Option (Int × List PD)) (go7 : (Int × Int × List PD) → Option (Int × List PD)) (k4 : Int) (i5 : Int) (a6 : List PD) : Option (Int × List PD) :=
 if i5 < (a6.length : Int) then
  bnd (nth a6 i5) fun x8 =>
  chk (I64 (k4 + 1)) <|
  bnd (nth (a6.set i5.toNat (PD.mk k4 x8.number x8.text x8.items)) i5) fun x9 =>
  chk (I64 ((k4 + 1) + 1)) <|
  bnd (R7 ((k4 + 1) + 1)) fun x10 =>
  bnd (nth ((a6.set i5.toNat (PD.mk k4 x8.number x8.text x8.items)).set i5.toNat (PD.mk x9.kind (k4 + 1) x9.text x9.items)) i5) fun x11 =>
  chk (I64 (((k4 + 1) + 1) + 1)) <|
  bnd (nth (((a6.set i5.toNat (PD.mk k4 x8.number x8.text x8.items)).set i5.toNat (PD.mk x9.kind (k4 + 1) x9.text x9.items)).set i5.toNat (PD.mk x11.kind x11.number x10 x11.items)) i5) fun x12 =>
  bnd (s9 x12.items (((k4 + 1) + 1) + 1)) fun x13 =>
  chk (x13.2.length = x12.items.length) <|
  chk (I64 (i5 + 1)) <|
  go7 (x13.1, (i5 + 1), ((((a6.set i5.toNat (PD.mk k4 x8.number x8.text x8.items)).set i5.toNat (PD.mk x9.kind (k4 + 1) x9.text x9.items)).set i5.toNat (PD.mk x11.kind x11.number x10 x11.items)).set i5.toNat (PD.mk x12.kind x12.number x12.text x13.2)))
 else
  some (k4, a6)
def eZ (s9 : List PD → Int → Option (Int × List PD)) (go : (Int × Int × List PD) → Option (Int × List PD)) (v : Int × Int × List PD) : Option (Int × List PD) :=
 match v with
 | (k4, i5, a6) => I1 s9 go k4 i5 a6
def X8 (s9 : List PD → Int → Option (Int × List PD)) (a : List PD) (k : Int) : Option (Int × List PD) :=
 itr (eZ s9) LF (k, 0, a)
def s9 : Nat → List PD → Int → Option (Int × List PD)
 | 0, _, _ => none
 | n + 1, a, k => X8 (s9 n) a k
def eY (a : PD) (k : Int) : Option (Int × List PD) :=
 bnd (s9 RF a.items k) fun x3 =>
 chk (x3.2.length = a.items.length) <|
 some (x3.1, x3.2)
def K3 (v8 : List PC → Int → Option (Int × List PC)) (go7 : (Int × Int × List PC) → Option (Int × List PC)) (k4 : Int) (i5 : Int) (a6 : List PC) : Option (Int × List PC) :=
 if i5 < (a6.length : Int) then
  bnd (nth a6 i5) fun x8 =>
  chk (I64 (k4 + 1)) <|
  bnd (nth (a6.set i5.toNat (PC.mk k4 x8.number x8.params x8.datum x8.kids)) i5) fun x9 =>
  chk (I64 ((k4 + 1) + 1)) <|
  bnd (nth ((a6.set i5.toNat (PC.mk k4 x8.number x8.params x8.datum x8.kids)).set i5.toNat (PC.mk x9.kind (k4 + 1) x9.params x9.datum x9.kids)) i5) fun x10 =>
  bnd (bO x10.params ((k4 + 1) + 1)) fun x11 =>
  chk (x11.2.length = x10.params.length) <|
  bnd (nth (((a6.set i5.toNat (PC.mk k4 x8.number x8.params x8.datum x8.kids)).set i5.toNat (PC.mk x9.kind (k4 + 1) x9.params x9.datum x9.kids)).set i5.toNat (PC.mk x10.kind x10.number x11.2 x10.datum x10.kids)) i5) fun x12 =>
  chk (I64 (x11.1 + 1)) <|
  bnd (nth ((((a6.set i5.toNat (PC.mk k4 x8.number x8.params x8.datum x8.kids)).set i5.toNat (PC.mk x9.kind (k4 + 1) x9.params x9.datum x9.kids)).set i5.toNat (PC.mk x10.kind x10.number x11.2 x10.datum x10.kids)).set i5.toNat (PC.mk x12.kind x12.number x12.params (PD.mk x11.1 x12.datum.number x12.datum.text x12.datum.items) x12.kids)) i5) fun x13 =>
  chk (I64 ((x11.1 + 1) + 1)) <|
  bnd (R7 ((x11.1 + 1) + 1)) fun x14 =>
  bnd (nth (((((a6.set i5.toNat (PC.mk k4 x8.number x8.params x8.datum x8.kids)).set i5.toNat (PC.mk x9.kind (k4 + 1) x9.params x9.datum x9.kids)).set i5.toNat (PC.mk x10.kind x10.number x11.2 x10.datum x10.kids)).set i5.toNat (PC.mk x12.kind x12.number x12.params (PD.mk x11.1 x12.datum.number x12.datum.text x12.datum.items) x12.kids)).set i5.toNat (PC.mk x13.kind x13.number x13.params (PD.mk x13.datum.kind (x11.1 + 1) x13.datum.text x13.datum.items) x13.kids)) i5) fun x15 =>
  chk (I64 (((x11.1 + 1) + 1) + 1)) <|
  bnd (nth ((((((a6.set i5.toNat (PC.mk k4 x8.number x8.params x8.datum x8.kids)).set i5.toNat (PC.mk x9.kind (k4 + 1) x9.params x9.datum x9.kids)).set i5.toNat (PC.mk x10.kind x10.number x11.2 x10.datum x10.kids)).set i5.toNat (PC.mk x12.kind x12.number x12.params (PD.mk x11.1 x12.datum.number x12.datum.text x12.datum.items) x12.kids)).set i5.toNat (PC.mk x13.kind x13.number x13.params (PD.mk x13.datum.kind (x11.1 + 1) x13.datum.text x13.datum.items) x13.kids)).set i5.toNat (PC.mk x15.kind x15.number x15.params (PD.mk x15.datum.kind x15.datum.number x14 x15.datum.items) x15.kids)) i5) fun x16 =>
  bnd (s9 RF x16.datum.items (((x11.1 + 1) + 1) + 1)) fun x17 =>
  chk (x17.2.length = x16.datum.items.length) <|
  bnd (nth (((((((a6.set i5.toNat (PC.mk k4 x8.number x8.params x8.datum x8.kids)).set i5.toNat (PC.mk x9.kind (k4 + 1) x9.params x9.datum x9.kids)).set i5.toNat (PC.mk x10.kind x10.number x11.2 x10.datum x10.kids)).set i5.toNat (PC.mk x12.kind x12.number x12.params (PD.mk x11.1 x12.datum.number x12.datum.text x12.datum.items) x12.kids)).set i5.toNat (PC.mk x13.kind x13.number x13.params (PD.mk x13.datum.kind (x11.1 + 1) x13.datum.text x13.datum.items) x13.kids)).set i5.toNat (PC.mk x15.kind x15.number x15.params (PD.mk x15.datum.kind x15.datum.number x14 x15.datum.items) x15.kids)).set i5.toNat (PC.mk x16.kind x16.number x16.params (PD.mk x16.datum.kind x16.datum.number x16.datum.text x17.2) x16.kids)) i5) fun x18 =>
  bnd (v8 x18.kids x17.1) fun x19 =>
  chk (x19.2.length = x18.kids.length) <|
  chk (I64 (i5 + 1)) <|
  go7 (x19.1, (i5 + 1), ((((((((a6.set i5.toNat (PC.mk k4 x8.number x8.params x8.datum x8.kids)).set i5.toNat (PC.mk x9.kind (k4 + 1) x9.params x9.datum x9.kids)).set i5.toNat (PC.mk x10.kind x10.number x11.2 x10.datum x10.kids)).set i5.toNat (PC.mk x12.kind x12.number x12.params (PD.mk x11.1 x12.datum.number x12.datum.text x12.datum.items) x12.kids)).set i5.toNat (PC.mk x13.kind x13.number x13.params (PD.mk x13.datum.kind (x11.1 + 1) x13.datum.text x13.datum.items) x13.kids)).set i5.toNat (PC.mk x15.kind x15.number x15.params (PD.mk x15.datum.kind x15.datum.number x14 x15.datum.items) x15.kids)).set i5.toNat (PC.mk x16.kind x16.number x16.params (PD.mk x16.datum.kind x16.datum.number x16.datum.text x17.2) x16.kids)).set i5.toNat (PC.mk x18.kind x18.number x18.params x18.datum x19.2)))
 else
  some (k4, a6)
def gQ (v8 : List PC → Int → Option (Int × List PC)) (go : (Int × Int × List PC) → Option (Int × List PC)) (v : Int × Int × List PC) : Option (Int × List PC) :=
 match v with
 | (k4, i5, a6) => K3 v8 go k4 i5 a6
def aT (v8 : List PC → Int → Option (Int × List PC)) (a : List PC) (k : Int) : Option (Int × List PC) :=
 itr (gQ v8) LF (k, 0, a)
def v8 : Nat → List PC → Int → Option (Int × List PC)
 | 0, _, _ => none
 | n + 1, a, k => aT (v8 n) a k
def dE (a : PC) (k : Int) : Option (Int × LI × List PD × List PC) :=
 bnd (bO a.params k) fun x3 =>
 chk (x3.2.length = a.params.length) <|
 bnd (eY a.datum x3.1) fun x4 =>
 chk (x4.2.length = a.datum.items.length) <|
 bnd (v8 RF a.kids x4.1) fun x5 =>
 chk (x5.2.length = a.kids.length) <|
 some (x5.1, x3.2, x4.2, x5.2)
def M9 (a : LI) (go5 : (Int × Int) → Option Int) (k3 : Int) (i4 : Int) : Option Int :=
 if i4 < (a.length : Int) then
  bnd (nth a i4) fun x6 =>
  if x6 = k3 then
   chk (I64 (k3 + 1)) <|
   chk (I64 (i4 + 1)) <|
   go5 ((k3 + 1), (i4 + 1))
  else
   some (-1)
 else
  some k3
def kS (a : LI) (go : (Int × Int) → Option Int) (v : Int × Int) : Option Int :=
 match v with
 | (k3, i4) => M9 a go k3 i4
def bN (a : LI) (k : Int) : Option Int :=
 itr (kS a) LF (k, 0)
def I0 (s8 : List PD → Int → Option Int) (a : List PD) (go6 : (Int × Int) → Option Int) (k4 : Int) (i5 : Int) : Option Int :=
 if i5 < (a.length : Int) then
  bnd (nth a i5) fun x7 =>
  if x7.kind = k4 then
   chk (I64 (k4 + 1)) <|
   bnd (nth a i5) fun x8 =>
   if x8.number = (k4 + 1) then
    chk (I64 ((k4 + 1) + 1)) <|
    bnd (nth a i5) fun x9 =>
    bnd (R7 ((k4 + 1) + 1)) fun x10 =>
    if x9.text = x10 then
     chk (I64 (((k4 + 1) + 1) + 1)) <|
     bnd (nth a i5) fun x11 =>
     bnd (s8 x11.items (((k4 + 1) + 1) + 1)) fun x12 =>
     if x12 < 0 then
      some (-1)
     else
      chk (I64 (i5 + 1)) <|
      go6 (x12, (i5 + 1))
    else
     some (-1)
   else
    some (-1)
  else
   some (-1)
 else
  some k4
def eX (s8 : List PD → Int → Option Int) (a : List PD) (go : (Int × Int) → Option Int) (v : Int × Int) : Option Int :=
 match v with
 | (k4, i5) => I0 s8 a go k4 i5
def X7 (s8 : List PD → Int → Option Int) (a : List PD) (k : Int) : Option Int :=
 itr (eX s8 a) LF (k, 0)
def s8 : Nat → List PD → Int → Option Int
 | 0, _, _ => none
 | n + 1, a, k => X7 (s8 n) a k
def eW (a : PD) (k : Int) : Option Int :=
 bnd (s8 RF a.items k) fun x3 =>
 if x3 < 0 then
  some (-1)
 else
  some x3
def K2 (v7 : List PC → Int → Option Int) (a : List PC) (go6 : (Int × Int) → Option Int) (k4 : Int) (i5 : Int) : Option Int :=
 if i5 < (a.length : Int) then
  bnd (nth a i5) fun x7 =>
  if x7.kind = k4 then
   chk (I64 (k4 + 1)) <|
   bnd (nth a i5) fun x8 =>
   if x8.number = (k4 + 1) then
    chk (I64 ((k4 + 1) + 1)) <|
    bnd (nth a i5) fun x9 =>
    bnd (bN x9.params ((k4 + 1) + 1)) fun x10 =>
    if x10 < 0 then
     some (-1)
    else
     bnd (nth a i5) fun x11 =>
     if x11.datum.kind = x10 then
      chk (I64 (x10 + 1)) <|
      bnd (nth a i5) fun x12 =>
      if x12.datum.number = (x10 + 1) then
       chk (I64 ((x10 + 1) + 1)) <|
       bnd (nth a i5) fun x13 =>
       bnd (R7 ((x10 + 1) + 1)) fun x14 =>
       if x13.datum.text = x14 then
        chk (I64 (((x10 + 1) + 1) + 1)) <|
        bnd (nth a i5) fun x15 =>
        bnd (s8 RF x15.datum.items (((x10 + 1) + 1) + 1)) fun x16 =>
        if x16 < 0 then
         some (-1)
        else
         bnd (nth a i5) fun x17 =>
         bnd (v7 x17.kids x16) fun x18 =>
         if x18 < 0 then
          some (-1)
         else
          chk (I64 (i5 + 1)) <|
          go6 (x18, (i5 + 1))
       else
        some (-1)
      else
       some (-1)
     else
      some (-1)
   else
    some (-1)
  else
   some (-1)
 else
  some k4
def gO (v7 : List PC → Int → Option Int) (a : List PC) (go : (Int × Int) → Option Int) (v : Int × Int) : Option Int :=
 match v with
 | (k4, i5) => K2 v7 a go k4 i5
def aS (v7 : List PC → Int → Option Int) (a : List PC) (k : Int) : Option Int :=
 itr (gO v7 a) LF (k, 0)
def v7 : Nat → List PC → Int → Option Int
 | 0, _, _ => none
 | n + 1, a, k => aS (v7 n) a k
def dD (a : PC) (k : Int) : Option Int :=
 bnd (bN a.params k) fun x3 =>
 if x3 < 0 then
  some (-1)
 else
  bnd (eW a.datum x3) fun x4 =>
  if x4 < 0 then
   some (-1)
  else
   bnd (v7 RF a.kids x4) fun x5 =>
   if x5 < 0 then
    some (-1)
   else
    some x5
def L5 (aC : PC) : Option Bool :=
 bnd (A1 RF aC 1048576) fun x2 =>
 if x2 < 0 then
  some true
 else
  bnd (y8 RF aC) fun x3 =>
  bnd (X6 x3) fun x4 =>
  bnd (y8 RF aC) fun x5 =>
  bnd (R6 x5) fun x6 =>
  bnd (z6 RF x6.1 x4.1) fun x7 =>
  if x7 = true then
   if x6.2 = x4.2 then
    bnd (y8 RF aC) fun x8 =>
    bnd (z6 RF x5 x8) fun x9 =>
    if x9 = true then
     bnd (dE x5 1) fun x10 =>
     chk (x10.2.1.length = x5.params.length) <|
     chk (x10.2.2.1.length = x5.datum.items.length) <|
     chk (x10.2.2.2.length = x5.kids.length) <|
     if x10.1 < 0 then
      some false
     else
      bnd (z6 RF x6.1 x4.1) fun x11 =>
      if x11 = true then
       if x6.2 = x4.2 then
        bnd (dE x6.1 1) fun x12 =>
        chk (x12.2.1.length = x6.1.params.length) <|
        chk (x12.2.2.1.length = x6.1.datum.items.length) <|
        chk (x12.2.2.2.length = x6.1.kids.length) <|
        bnd (dD (PC.mk x6.1.kind x6.1.number x12.2.1 (PD.mk x6.1.datum.kind x6.1.datum.number x6.1.datum.text x12.2.2.1) x12.2.2.2) 1) fun x13 =>
        if x13 < 0 then
         some false
        else
         if x13 = x12.1 then
          bnd (y8 RF aC) fun x14 =>
          bnd (R6 x14) fun x15 =>
          bnd (z6 RF x15.1 x4.1) fun x16 =>
          if x16 = true then
           if x15.2 = x4.2 then
            bnd (dD (PC.mk x6.1.kind x6.1.number x12.2.1 (PD.mk x6.1.datum.kind x6.1.datum.number x6.1.datum.text x12.2.2.1) x12.2.2.2) 1) fun x17 =>
            if x17 < 0 then
             some false
            else
             if x17 = x12.1 then
              some true
             else
              some false
           else
            some false
          else
           some false
         else
          some false
       else
        some false
      else
       some false
    else
     some false
   else
    some false
  else
   some false
end Go.Abs
