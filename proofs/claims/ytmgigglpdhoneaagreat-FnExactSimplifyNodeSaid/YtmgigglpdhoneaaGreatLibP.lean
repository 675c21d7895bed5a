
import Derived.Test.YtmgigglpdhoneaaGreatLibD
import Derived.Test.YtmgigglpdhoneaaGreatLibE
set_option linter.unusedVariables false
set_option linter.unusedSimpArgs false
namespace Go.Abs
set_option linter.unusedVariables false
def i_numberSet_add_J1 (list : List Int) (x_1 : Int) (x4 : List (Int × Int)) : Option (List Int × (Option (List (Int × Int)))) :=
 if (mget x4 x_1) = 0 then
  chk ((list.length + ([x_1] : List Int).length) * 8 ≤ 140737488355328) <|
  some ((list ++ ([x_1] : List Int)), (some (mput x4 x_1 1)))
 else
  some (list, (some x4))
def i_numberSet_add (list : List Int) (seen : Option (List (Int × Int))) (x_1 : Int) : Option (List Int × (Option (List (Int × Int)))) :=
 if seen = none then
  i_numberSet_add_J1 list x_1 ([] : List (Int × Int))
 else
  bnd (seen) fun x4 =>
  i_numberSet_add_J1 list x_1 x4
def i_freeIn_L5b (c : PCore) (x14 : List Int) (x15 : Option (List (Int × Int))) (go19 : (Int × (List (Int × Int))) → Option ((List (Int × Int)) × List Int × (Option (List (Int × Int))))) (x17 : Int) (bound18 : List (Int × Int)) : Option ((List (Int × Int)) × List Int × (Option (List (Int × Int)))) :=
 if x17 < (c.params.length : Int) then
  bnd (nth c.params x17) fun x20 =>
  chk (I64 ((mget bound18 x20) - 1)) <|
  chk (I64 (x17 + 1)) <|
  go19 ((x17 + 1), (mput bound18 x20 ((mget bound18 x20) - 1)))
 else
  some (bound18, x14, x15)
def i_freeIn_L5 (c : PCore) (x14 : List Int) (x15 : Option (List (Int × Int))) (go : (Int × (List (Int × Int))) → Option ((List (Int × Int)) × List Int × (Option (List (Int × Int))))) (v : Int × (List (Int × Int))) : Option ((List (Int × Int)) × List Int × (Option (List (Int × Int)))) :=
 match v with
 | (x17, bound18) => i_freeIn_L5b c x14 x15 go x17 bound18
def i_freeIn_L4b (i_freeIn : PCore → List (Int × Int) → List Int → Option (List (Int × Int)) → Option ((List (Int × Int)) × List Int × (Option (List (Int × Int))))) (c : PCore) (go16 : (Int × (List (Int × Int)) × List Int × (Option (List (Int × Int)))) → Option ((List (Int × Int)) × List Int × (Option (List (Int × Int))))) (x12 : Int) (bound13 : List (Int × Int)) (x14 : List Int) (x15 : Option (List (Int × Int))) : Option ((List (Int × Int)) × List Int × (Option (List (Int × Int)))) :=
 if x12 < (c.kids.length : Int) then
  bnd (nth c.kids x12) fun x17 =>
  bnd (i_freeIn x17 bound13 x14 x15) fun x18 =>
  chk (I64 (x12 + 1)) <|
  go16 ((x12 + 1), x18.1, x18.2.1, x18.2.2)
 else
  itr (i_freeIn_L5 c x14 x15) LF (0, bound13)
def i_freeIn_L4 (i_freeIn : PCore → List (Int × Int) → List Int → Option (List (Int × Int)) → Option ((List (Int × Int)) × List Int × (Option (List (Int × Int))))) (c : PCore) (go : (Int × (List (Int × Int)) × List Int × (Option (List (Int × Int)))) → Option ((List (Int × Int)) × List Int × (Option (List (Int × Int))))) (v : Int × (List (Int × Int)) × List Int × (Option (List (Int × Int)))) : Option ((List (Int × Int)) × List Int × (Option (List (Int × Int)))) :=
 match v with
 | (x12, bound13, x14, x15) => i_freeIn_L4b i_freeIn c go x12 bound13 x14 x15
def i_freeIn_L3b (i_freeIn : PCore → List (Int × Int) → List Int → Option (List (Int × Int)) → Option ((List (Int × Int)) × List Int × (Option (List (Int × Int))))) (c : PCore) (x7 : List Int) (x8 : Option (List (Int × Int))) (go11 : (Int × (List (Int × Int))) → Option ((List (Int × Int)) × List Int × (Option (List (Int × Int))))) (x9 : Int) (bound10 : List (Int × Int)) : Option ((List (Int × Int)) × List Int × (Option (List (Int × Int)))) :=
 if x9 < (c.params.length : Int) then
  bnd (nth c.params x9) fun x12 =>
  chk (I64 ((mget bound10 x12) + 1)) <|
  chk (I64 (x9 + 1)) <|
  go11 ((x9 + 1), (mput bound10 x12 ((mget bound10 x12) + 1)))
 else
  itr (i_freeIn_L4 i_freeIn c) LF (0, bound10, x7, x8)
def i_freeIn_L3 (i_freeIn : PCore → List (Int × Int) → List Int → Option (List (Int × Int)) → Option ((List (Int × Int)) × List Int × (Option (List (Int × Int))))) (c : PCore) (x7 : List Int) (x8 : Option (List (Int × Int))) (go : (Int × (List (Int × Int))) → Option ((List (Int × Int)) × List Int × (Option (List (Int × Int))))) (v : Int × (List (Int × Int))) : Option ((List (Int × Int)) × List Int × (Option (List (Int × Int)))) :=
 match v with
 | (x9, bound10) => i_freeIn_L3b i_freeIn c x7 x8 go x9 bound10
def i_freeIn_J2 (i_freeIn : PCore → List (Int × Int) → List Int → Option (List (Int × Int)) → Option ((List (Int × Int)) × List Int × (Option (List (Int × Int))))) (c : PCore) (bound : List (Int × Int)) (x7 : List Int) (x8 : Option (List (Int × Int))) : Option ((List (Int × Int)) × List Int × (Option (List (Int × Int)))) :=
 itr (i_freeIn_L3 i_freeIn c x7 x8) LF (0, bound)
def i_freeIn_J1 (i_freeIn : PCore → List (Int × Int) → List Int → Option (List (Int × Int)) → Option ((List (Int × Int)) × List Int × (Option (List (Int × Int))))) (c : PCore) (bound : List (Int × Int)) (list : List Int) (seen : Option (List (Int × Int))) (x6 : Bool) : Option ((List (Int × Int)) × List Int × (Option (List (Int × Int)))) :=
 if x6 = true then
  bnd (i_numberSet_add list seen c.number) fun x7 =>
  i_freeIn_J2 i_freeIn c bound x7.1 x7.2
 else
  i_freeIn_J2 i_freeIn c bound list seen
def i_freeIn_b (i_freeIn : PCore → List (Int × Int) → List Int → Option (List (Int × Int)) → Option ((List (Int × Int)) × List Int × (Option (List (Int × Int))))) (c : PCore) (bound : List (Int × Int)) (list : List Int) (seen : Option (List (Int × Int))) : Option ((List (Int × Int)) × List Int × (Option (List (Int × Int)))) :=
 if c.kind = 2 then
  i_freeIn_J1 i_freeIn c bound list seen (decide ((mget bound c.number) = 0))
 else
  if c.kind = 4 then
   i_freeIn_J1 i_freeIn c bound list seen (decide ((mget bound c.number) = 0))
  else
   i_freeIn_J1 i_freeIn c bound list seen false
def i_freeIn : Nat → PCore → List (Int × Int) → List Int → Option (List (Int × Int)) → Option ((List (Int × Int)) × List Int × (Option (List (Int × Int))))
 | 0, _, _, _, _ => none
 | n + 1, c, bound, list, seen => i_freeIn_b (i_freeIn n) c bound list seen
def i_FreeVariables (c : PCore) : Option (List Int) :=
 bnd (i_freeIn RF c ([] : List (Int × Int)) [] (none : Option (List (Int × Int)))) fun x2 =>
 some x2.2.1
def i_EqualData_L1b (i_EqualData : PDat → PDat → Option Bool) (a : PDat) (b : PDat) (go5 : Int → Option Bool) (x4 : Int) : Option Bool :=
 if x4 < (a.items.length : Int) then
  bnd (nth a.items x4) fun x6 =>
  bnd (nth b.items x4) fun x7 =>
  bnd (i_EqualData x6 x7) fun x8 =>
  if x8 = true then
   chk (I64 (x4 + 1)) <|
   go5 (x4 + 1)
  else
   some false
 else
  some true
def i_EqualData_L1 (i_EqualData : PDat → PDat → Option Bool) (a : PDat) (b : PDat) (go : Int → Option Bool) (v : Int) : Option Bool :=
 match v with
 | x4 => i_EqualData_L1b i_EqualData a b go x4
def i_EqualData_b (i_EqualData : PDat → PDat → Option Bool) (a : PDat) (b : PDat) : Option Bool :=
 if a.kind = b.kind then
  if a.number = b.number then
   if a.text = b.text then
    if (a.items.length : Int) = (b.items.length : Int) then
     itr (i_EqualData_L1 i_EqualData a b) LF 0
    else
     some false
   else
    some false
  else
   some false
 else
  some false
def i_EqualData : Nat → PDat → PDat → Option Bool
 | 0, _, _ => none
 | n + 1, a, b => i_EqualData_b (i_EqualData n) a b
def i_isDigit (b : Int) : Option Bool :=
 if b ≥ 48 then
  some (decide (b ≤ 57))
 else
  some false
def i_symbolByte_J1 (b : Int) (x2 : Bool) : Option Bool :=
 if x2 = true then
  some true
 else
  if b = 33 then
   some true
  else
   if b = 63 then
    some true
   else
    if b = 42 then
     some true
    else
     if b = 60 then
      some true
     else
      if b = 62 then
       some true
      else
       if b = 61 then
        some true
       else
        if b = 47 then
         some true
        else
         if b = 43 then
          some true
         else
          if b = 45 then
           some true
          else
           if b = 46 then
            some true
           else
            if b = 95 then
             some true
            else
             some false
def i_symbolByte (b : Int) : Option Bool :=
 if b ≥ 97 then
  if b ≤ 122 then
   i_symbolByte_J1 b true
  else
   if b ≥ 48 then
    i_symbolByte_J1 b (decide (b ≤ 57))
   else
    i_symbolByte_J1 b false
 else
  if b ≥ 48 then
   i_symbolByte_J1 b (decide (b ≤ 57))
  else
   i_symbolByte_J1 b false
def i_IsSymbol_L2b (s : List UInt8) (go4 : Int → Option Bool) (i3 : Int) : Option Bool :=
 if i3 < (s.length : Int) then
  bnd (nth s i3) fun x5 =>
  bnd (i_symbolByte (x5.toNat : Int)) fun x6 =>
  if x6 = true then
   chk (I64 (i3 + 1)) <|
   go4 (i3 + 1)
  else
   some false
 else
  some true
def i_IsSymbol_L2 (s : List UInt8) (go : Int → Option Bool) (v : Int) : Option Bool :=
 match v with
 | i3 => i_IsSymbol_L2b s go i3
def i_IsSymbol_J1 (s : List UInt8) (x2 : Bool) : Option Bool :=
 if x2 = true then
  some false
 else
  itr (i_IsSymbol_L2 s) LF 0
def i_IsSymbol (s : List UInt8) : Option Bool :=
 if (s.length : Int) < 1 then
  i_IsSymbol_J1 s true
 else
  if (s.length : Int) > 16 then
   i_IsSymbol_J1 s true
  else
   bnd (nth s 0) fun x2 =>
   bnd (i_isDigit (x2.toNat : Int)) fun x3 =>
   if x3 = true then
    i_IsSymbol_J1 s true
   else
    bnd (nth s 0) fun x4 =>
    if (x4.toNat : Int) = 45 then
     if (s.length : Int) > 1 then
      bnd (nth s 1) fun x5 =>
      bnd (i_isDigit (x5.toNat : Int)) fun x6 =>
      i_IsSymbol_J1 s x6
     else
      i_IsSymbol_J1 s false
    else
     i_IsSymbol_J1 s false
def i_stringText_L1b (s : List UInt8) (go3 : Int → Option Bool) (i2 : Int) : Option Bool :=
 if i2 < (s.length : Int) then
  bnd (nth s i2) fun x4 =>
  if (x4.toNat : Int) < 32 then
   some false
  else
   bnd (nth s i2) fun x5 =>
   if (x5.toNat : Int) > 126 then
    some false
   else
    bnd (nth s i2) fun x6 =>
    if (x6.toNat : Int) = 34 then
     some false
    else
     chk (I64 (i2 + 1)) <|
     go3 (i2 + 1)
 else
  some true
def i_stringText_L1 (s : List UInt8) (go : Int → Option Bool) (v : Int) : Option Bool :=
 match v with
 | i2 => i_stringText_L1b s go i2
def i_stringText (s : List UInt8) : Option Bool :=
 if (s.length : Int) > 20 then
  some false
 else
  itr (i_stringText_L1 s) LF 0
def i_rightNode (kind : Int) (number : Int) (text : List UInt8) (items : Int) : Option Bool :=
 if kind = 0 then
  if number = 0 then
   some (decide (text = ([] : List UInt8)))
  else
   some false
 else
  if kind = 1 then
   if number = 0 then
    if items = 0 then
     bnd (i_IsSymbol text) fun x5 =>
     some x5
    else
     some false
   else
    some false
  else
   if kind = 2 then
    if number ≥ (-999999999) then
     if number ≤ 999999999 then
      if text = ([] : List UInt8) then
       some (decide (items = 0))
      else
       some false
     else
      some false
    else
     some false
   else
    if kind = 3 then
     if number = 0 then
      if text = ([] : List UInt8) then
       some (decide (items = 0))
      else
       some false
     else
      if number = 1 then
       if text = ([] : List UInt8) then
        some (decide (items = 0))
       else
        some false
      else
       some false
    else
     if kind = 4 then
      if number = 0 then
       if items = 0 then
        bnd (i_stringText text) fun x5 =>
        some x5
       else
        some false
      else
       some false
     else
      some false
def i_measure_L1b (i_measure : PDat → Int → Int → Option (Bool × Int)) (d : PDat) (deep : Int) (go8 : (Int × Int) → Option (Bool × Int)) (x6 : Int) (nodes7 : Int) : Option (Bool × Int) :=
 if x6 < (d.items.length : Int) then
  bnd (nth d.items x6) fun x9 =>
  chk (I64 (deep + 1)) <|
  bnd (i_measure x9 (deep + 1) nodes7) fun x10 =>
  if x10.1 = true then
   chk (I64 (x6 + 1)) <|
   go8 ((x6 + 1), x10.2)
  else
   some (false, x10.2)
 else
  some (true, nodes7)
def i_measure_L1 (i_measure : PDat → Int → Int → Option (Bool × Int)) (d : PDat) (deep : Int) (go : (Int × Int) → Option (Bool × Int)) (v : Int × Int) : Option (Bool × Int) :=
 match v with
 | (x6, nodes7) => i_measure_L1b i_measure d deep go x6 nodes7
def i_measure_b (i_measure : PDat → Int → Int → Option (Bool × Int)) (d : PDat) (deep : Int) (nodes : Int) : Option (Bool × Int) :=
 chk (I64 (nodes + 1)) <|
 if deep > 20 then
  some (false, (nodes + 1))
 else
  if (nodes + 1) > 600 then
   some (false, (nodes + 1))
  else
   bnd (i_rightNode d.kind d.number d.text (d.items.length : Int)) fun x5 =>
   if x5 = true then
    itr (i_measure_L1 i_measure d deep) LF (0, (nodes + 1))
   else
    some (false, (nodes + 1))
def i_measure : Nat → PDat → Int → Int → Option (Bool × Int)
 | 0, _, _, _ => none
 | n + 1, d, deep, nodes => i_measure_b (i_measure n) d deep nodes
def i_IsDatum (d : PDat) : Option Bool :=
 bnd (i_measure RF d 1 0) fun x2 =>
 some x2.1
def i_PrimitiveNames : Option (List (List UInt8)) :=
 some ([([43] : List UInt8), ([45] : List UInt8), ([42] : List UInt8), ([61] : List UInt8), ([60] : List UInt8), ([99, 111, 110, 115] : List UInt8), ([99, 97, 114] : List UInt8), ([99, 100, 114] : List UInt8), ([110, 117, 108, 108, 63] : List UInt8), ([112, 97, 105, 114, 63] : List UInt8), ([110, 117, 109, 98, 101, 114, 63] : List UInt8), ([101, 113, 63] : List UInt8), ([110, 111, 116] : List UInt8), ([100, 105, 115, 112, 108, 97, 121] : List UInt8)] : List (List UInt8))
def i_coreShape_L3b (c : PCore) (go5 : Int → Option Bool) (x4 : Int) : Option Bool :=
 if x4 < (c.kids.length : Int) then
  bnd (nth c.kids x4) fun x6 =>
  if x6.kind = 8 then
   some false
  else
   chk (I64 (x4 + 1)) <|
   go5 (x4 + 1)
 else
  some true
def i_coreShape_L3 (c : PCore) (go : Int → Option Bool) (v : Int) : Option Bool :=
 match v with
 | x4 => i_coreShape_L3b c go x4
def i_coreShape_J2 (c : PCore) (x3 : Bool) : Option Bool :=
 if x3 = true then
  some false
 else
  if c.kind = 1 then
   if (c.params.length : Int) = 0 then
    if (c.kids.length : Int) = 0 then
     bnd (i_IsDatum c.datum) fun x4 =>
     some x4
    else
     some false
   else
    some false
  else
   if c.kind = 2 then
    if (c.params.length : Int) = 0 then
     some (decide ((c.kids.length : Int) = 0))
    else
     some false
   else
    if c.kind = 3 then
     if (c.params.length : Int) = 0 then
      if (c.kids.length : Int) = 0 then
       if c.number ≥ 0 then
        bnd (i_PrimitiveNames) fun x4 =>
        some (decide (c.number < (x4.length : Int)))
       else
        some false
      else
       some false
     else
      some false
    else
     if c.kind = 4 then
      if (c.params.length : Int) = 0 then
       some (decide ((c.kids.length : Int) = 1))
      else
       some false
     else
      if c.kind = 5 then
       if (c.params.length : Int) ≤ 8 then
        some (decide ((c.kids.length : Int) = 1))
       else
        some false
      else
       if c.kind = 6 then
        if (c.params.length : Int) = 0 then
         if (c.kids.length : Int) ≥ 1 then
          some (decide ((c.kids.length : Int) ≤ 9))
         else
          some false
        else
         some false
       else
        if c.kind = 7 then
         if (c.params.length : Int) = 0 then
          some (decide ((c.kids.length : Int) = 3))
         else
          some false
        else
         if c.kind = 8 then
          if (c.params.length : Int) = 0 then
           if (c.kids.length : Int) < 2 then
            some false
           else
            if (c.kids.length : Int) > 60 then
             some false
            else
             itr (i_coreShape_L3 c) LF 0
          else
           some false
         else
          if c.kind = 9 then
           if (c.params.length : Int) ≥ 1 then
            if (c.params.length : Int) ≤ 60 then
             if (c.kids.length : Int) ≥ 1 then
              some (decide ((c.kids.length : Int) ≤ 60))
             else
              some false
            else
             some false
           else
            some false
          else
           if c.kind = 10 then
            if (c.params.length : Int) = 0 then
             some (decide ((c.kids.length : Int) = 1))
            else
             some false
           else
            if c.kind = 11 then
             if (c.params.length : Int) = 1 then
              some (decide ((c.kids.length : Int) = 1))
             else
              some false
            else
             some false
def i_coreShape_J1 (c : PCore) (x2 : Bool) : Option Bool :=
 if x2 = true then
  some false
 else
  if c.number = 0 then
   i_coreShape_J2 c false
  else
   if c.kind = 2 then
    i_coreShape_J2 c false
   else
    if c.kind = 3 then
     i_coreShape_J2 c false
    else
     i_coreShape_J2 c (!decide (c.kind = 4))
def i_coreShape (c : PCore) : Option Bool :=
 if c.kind = 1 then
  i_coreShape_J1 c false
 else
  bnd (i_EqualData RF c.datum (PDat.mk 0 0 ([] : List UInt8) [])) fun x2 =>
  i_coreShape_J1 c (!x2)
def i_coreNodes_L1b (i_coreNodes : PCore → Int → Int → Option (Bool × Int)) (c : PCore) (deep : Int) (go8 : (Int × Int) → Option (Bool × Int)) (x6 : Int) (nodes7 : Int) : Option (Bool × Int) :=
 if x6 < (c.kids.length : Int) then
  bnd (nth c.kids x6) fun x9 =>
  chk (I64 (deep + 1)) <|
  bnd (i_coreNodes x9 (deep + 1) nodes7) fun x10 =>
  if x10.1 = true then
   chk (I64 (x6 + 1)) <|
   go8 ((x6 + 1), x10.2)
  else
   some (false, x10.2)
 else
  some (true, nodes7)
def i_coreNodes_L1 (i_coreNodes : PCore → Int → Int → Option (Bool × Int)) (c : PCore) (deep : Int) (go : (Int × Int) → Option (Bool × Int)) (v : Int × Int) : Option (Bool × Int) :=
 match v with
 | (x6, nodes7) => i_coreNodes_L1b i_coreNodes c deep go x6 nodes7
def i_coreNodes_b (i_coreNodes : PCore → Int → Int → Option (Bool × Int)) (c : PCore) (deep : Int) (nodes : Int) : Option (Bool × Int) :=
 chk (I64 (nodes + 1)) <|
 if deep > 150 then
  some (false, (nodes + 1))
 else
  if (nodes + 1) > 3000 then
   some (false, (nodes + 1))
  else
   bnd (i_coreShape c) fun x5 =>
   if x5 = true then
    itr (i_coreNodes_L1 i_coreNodes c deep) LF (0, (nodes + 1))
   else
    some (false, (nodes + 1))
def i_coreNodes : Nat → PCore → Int → Int → Option (Bool × Int)
 | 0, _, _, _ => none
 | n + 1, c, deep, nodes => i_coreNodes_b (i_coreNodes n) c deep nodes
def i_differentVariables_L2b (x2 : Int) (go4 : (Int × (List (Int × Int))) → Option Bool) (x5 : List Int) (go8 : (Int × (List (Int × Int))) → Option Bool) (x6 : Int) (seen7 : List (Int × Int)) : Option Bool :=
 if x6 < (x5.length : Int) then
  bnd (nth x5 x6) fun x9 =>
  if x9 < 0 then
   some false
  else
   if x9 > 99999 then
    some false
   else
    if (mget seen7 x9) = 1 then
     some false
    else
     chk (I64 (x6 + 1)) <|
     go8 ((x6 + 1), (mput seen7 x9 1))
 else
  chk (I64 (x2 + 1)) <|
  go4 ((x2 + 1), seen7)
def i_differentVariables_L2 (x2 : Int) (go4 : (Int × (List (Int × Int))) → Option Bool) (x5 : List Int) (go : (Int × (List (Int × Int))) → Option Bool) (v : Int × (List (Int × Int))) : Option Bool :=
 match v with
 | (x6, seen7) => i_differentVariables_L2b x2 go4 x5 go x6 seen7
def i_differentVariables_L1b (lists : List (List Int)) (go4 : (Int × (List (Int × Int))) → Option Bool) (x2 : Int) (seen3 : List (Int × Int)) : Option Bool :=
 if x2 < (lists.length : Int) then
  bnd (nth lists x2) fun x5 =>
  itr (i_differentVariables_L2 x2 go4 x5) LF (0, seen3)
 else
  some true
def i_differentVariables_L1 (lists : List (List Int)) (go : (Int × (List (Int × Int))) → Option Bool) (v : Int × (List (Int × Int))) : Option Bool :=
 match v with
 | (x2, seen3) => i_differentVariables_L1b lists go x2 seen3
def i_differentVariables (lists : List (List Int)) : Option Bool :=
 itr (i_differentVariables_L1 lists) LF (0, ([] : List (Int × Int)))
def i_boundIn_L1b (i_boundIn : PCore → List Int → Option (List Int)) (c : PCore) (go6 : (Int × List Int) → Option (List Int)) (x4 : Int) (out5 : List Int) : Option (List Int) :=
 if x4 < (c.kids.length : Int) then
  bnd (nth c.kids x4) fun x7 =>
  bnd (i_boundIn x7 out5) fun x8 =>
  chk (I64 (x4 + 1)) <|
  go6 ((x4 + 1), x8)
 else
  some out5
def i_boundIn_L1 (i_boundIn : PCore → List Int → Option (List Int)) (c : PCore) (go : (Int × List Int) → Option (List Int)) (v : Int × List Int) : Option (List Int) :=
 match v with
 | (x4, out5) => i_boundIn_L1b i_boundIn c go x4 out5
def i_boundIn_b (i_boundIn : PCore → List Int → Option (List Int)) (c : PCore) (out : List Int) : Option (List Int) :=
 chk ((out.length + c.params.length) * 8 ≤ 140737488355328) <|
 itr (i_boundIn_L1 i_boundIn c) LF (0, (out ++ c.params))
def i_boundIn : Nat → PCore → List Int → Option (List Int)
 | 0, _, _ => none
 | n + 1, c, out => i_boundIn_b (i_boundIn n) c out
def i_BoundVariables (c : PCore) : Option (List Int) :=
 bnd (i_boundIn RF c []) fun x2 =>
 some x2
def i_validCore (c : PCore) : Option Bool :=
 bnd (i_coreNodes RF c 1 0) fun x2 =>
 if x2.1 = true then
  bnd (i_FreeVariables c) fun x3 =>
  bnd (i_BoundVariables c) fun x4 =>
  bnd (i_differentVariables ([x3, x4] : List (List Int))) fun x5 =>
  some x5
 else
  some false
def i_isAtom (c : PCore) : Option Bool :=
 if c.kind = 1 then
  some (decide ((c.datum.items.length : Int) = 0))
 else
  some false
def i_isPure (primitive : Int) : Option Bool :=
 bnd (i_PrimitiveNames) fun x2 =>
 if primitive ≥ 0 then
  if primitive < (x2.length : Int) then
   bnd (nth x2 primitive) fun x3 =>
   if x3 = ([99, 111, 110, 115] : List UInt8) then
    some false
   else
    bnd (nth x2 primitive) fun x4 =>
    some (!decide (x4 = ([100, 105, 115, 112, 108, 97, 121] : List UInt8)))
  else
   some false
 else
  some false
def i_ArityOf (primitive : Int) : Option Int :=
 bnd (i_PrimitiveNames) fun x2 =>
 if primitive < 0 then
  some (-1)
 else
  if primitive ≥ (x2.length : Int) then
   some (-1)
  else
   bnd (nth x2 primitive) fun x3 =>
   if x3 = ([43] : List UInt8) then
    some 2
   else
    if x3 = ([45] : List UInt8) then
     some 2
    else
     if x3 = ([42] : List UInt8) then
      some 2
     else
      if x3 = ([61] : List UInt8) then
       some 2
      else
       if x3 = ([60] : List UInt8) then
        some 2
       else
        if x3 = ([99, 111, 110, 115] : List UInt8) then
         some 2
        else
         if x3 = ([101, 113, 63] : List UInt8) then
          some 2
         else
          some 1
def i_valueOf_L1b (i_valueOf : PDat → List PPair → Option (PVal × List PPair)) (d : PDat) (go7 : (Int × List PPair × PVal) → Option (PVal × List PPair)) (i4 : Int) (pairs5 : List PPair) (list6 : PVal) : Option (PVal × List PPair) :=
 if i4 ≥ 0 then
  bnd (nth d.items i4) fun x8 =>
  bnd (i_valueOf x8 pairs5) fun x9 =>
  chk ((x9.2.length + ([(PPair.mk x9.1 list6)] : List PPair).length) * 64 ≤ 140737488355328) <|
  chk (I64 (((x9.2 ++ ([(PPair.mk x9.1 list6)] : List PPair)).length : Int) - 1)) <|
  chk (I64 (i4 - 1)) <|
  go7 ((i4 - 1), (x9.2 ++ ([(PPair.mk x9.1 list6)] : List PPair)), (PVal.mk 7 (((x9.2 ++ ([(PPair.mk x9.1 list6)] : List PPair)).length : Int) - 1) ([] : List UInt8)))
 else
  some (list6, pairs5)
def i_valueOf_L1 (i_valueOf : PDat → List PPair → Option (PVal × List PPair)) (d : PDat) (go : (Int × List PPair × PVal) → Option (PVal × List PPair)) (v : Int × List PPair × PVal) : Option (PVal × List PPair) :=
 match v with
 | (i4, pairs5, list6) => i_valueOf_L1b i_valueOf d go i4 pairs5 list6
def i_valueOf_b (i_valueOf : PDat → List PPair → Option (PVal × List PPair)) (d : PDat) (pairs : List PPair) : Option (PVal × List PPair) :=
 if d.kind = 1 then
  some ((PVal.mk 4 0 d.text), pairs)
 else
  if d.kind = 2 then
   some ((PVal.mk 3 d.number ([] : List UInt8)), pairs)
  else
   if d.kind = 3 then
    some ((PVal.mk 2 d.number ([] : List UInt8)), pairs)
   else
    if d.kind = 4 then
     some ((PVal.mk 5 0 d.text), pairs)
    else
     chk (I64 ((d.items.length : Int) - 1)) <|
     itr (i_valueOf_L1 i_valueOf d) LF (((d.items.length : Int) - 1), pairs, (PVal.mk 1 0 ([] : List UInt8)))
def i_valueOf : Nat → PDat → List PPair → Option (PVal × List PPair)
 | 0, _, _ => none
 | n + 1, d, pairs => i_valueOf_b (i_valueOf n) d pairs
def i_booleanOf (b : Bool) : Option PVal :=
 if b = true then
  some (PVal.mk 2 1 ([] : List UInt8))
 else
  some (PVal.mk 2 0 ([] : List UInt8))
def i_isFalse (x_1 : PVal) : Option Bool :=
 if x_1.kind = 2 then
  some (decide (x_1.number = 0))
 else
  some false
def i_applied_J1 (args : List PVal) (pairs : List PPair) (x5 : List UInt8) (x6 : PVal) (x7 : Bool) : Option (PVal × List UInt8) :=
 if x7 = true then
  if x6.kind = 7 then
   if x5 = ([99, 97, 114] : List UInt8) then
    bnd (nth pairs x6.number) fun x8 =>
    some (x8.h, ([] : List UInt8))
   else
    bnd (nth pairs x6.number) fun x8 =>
    some (x8.t, ([] : List UInt8))
  else
   chk (x5.length + ([58, 32, 98, 97, 100, 32, 97, 114, 103, 117, 109, 101, 110, 116] : List UInt8).length ≤ 9223372036854775807) <|
   some ((PVal.mk 0 0 ([] : List UInt8)), (x5 ++ ([58, 32, 98, 97, 100, 32, 97, 114, 103, 117, 109, 101, 110, 116] : List UInt8)))
 else
  bnd (nth args 1) fun x8 =>
  if x6.kind = 3 then
   if x8.kind = 3 then
    if x5 = ([61] : List UInt8) then
     bnd (i_booleanOf (decide (x6.number = x8.number))) fun x9 =>
     some (x9, ([] : List UInt8))
    else
     if x5 = ([60] : List UInt8) then
      bnd (i_booleanOf (decide (x6.number < x8.number))) fun x9 =>
      some (x9, ([] : List UInt8))
     else
      if x5 = ([43] : List UInt8) then
       chk (I64 (x6.number + x8.number)) <|
       if (x6.number + x8.number) < (-999999999) then
        some ((PVal.mk 0 0 ([] : List UInt8)), ([110, 117, 109, 98, 101, 114, 32, 116, 111, 111, 32, 108, 97, 114, 103, 101] : List UInt8))
       else
        if (x6.number + x8.number) > 999999999 then
         some ((PVal.mk 0 0 ([] : List UInt8)), ([110, 117, 109, 98, 101, 114, 32, 116, 111, 111, 32, 108, 97, 114, 103, 101] : List UInt8))
        else
         some ((PVal.mk 3 (x6.number + x8.number) ([] : List UInt8)), ([] : List UInt8))
      else
       if x5 = ([45] : List UInt8) then
        chk (I64 (x6.number - x8.number)) <|
        if (x6.number - x8.number) < (-999999999) then
         some ((PVal.mk 0 0 ([] : List UInt8)), ([110, 117, 109, 98, 101, 114, 32, 116, 111, 111, 32, 108, 97, 114, 103, 101] : List UInt8))
        else
         if (x6.number - x8.number) > 999999999 then
          some ((PVal.mk 0 0 ([] : List UInt8)), ([110, 117, 109, 98, 101, 114, 32, 116, 111, 111, 32, 108, 97, 114, 103, 101] : List UInt8))
         else
          some ((PVal.mk 3 (x6.number - x8.number) ([] : List UInt8)), ([] : List UInt8))
       else
        if x5 = ([42] : List UInt8) then
         chk (I64 (x6.number * x8.number)) <|
         if (x6.number * x8.number) < (-999999999) then
          some ((PVal.mk 0 0 ([] : List UInt8)), ([110, 117, 109, 98, 101, 114, 32, 116, 111, 111, 32, 108, 97, 114, 103, 101] : List UInt8))
         else
          if (x6.number * x8.number) > 999999999 then
           some ((PVal.mk 0 0 ([] : List UInt8)), ([110, 117, 109, 98, 101, 114, 32, 116, 111, 111, 32, 108, 97, 114, 103, 101] : List UInt8))
          else
           some ((PVal.mk 3 (x6.number * x8.number) ([] : List UInt8)), ([] : List UInt8))
        else
         if 0 < (-999999999) then
          some ((PVal.mk 0 0 ([] : List UInt8)), ([110, 117, 109, 98, 101, 114, 32, 116, 111, 111, 32, 108, 97, 114, 103, 101] : List UInt8))
         else
          if 0 > 999999999 then
           some ((PVal.mk 0 0 ([] : List UInt8)), ([110, 117, 109, 98, 101, 114, 32, 116, 111, 111, 32, 108, 97, 114, 103, 101] : List UInt8))
          else
           some ((PVal.mk 3 0 ([] : List UInt8)), ([] : List UInt8))
   else
    chk (x5.length + ([58, 32, 98, 97, 100, 32, 97, 114, 103, 117, 109, 101, 110, 116] : List UInt8).length ≤ 9223372036854775807) <|
    some ((PVal.mk 0 0 ([] : List UInt8)), (x5 ++ ([58, 32, 98, 97, 100, 32, 97, 114, 103, 117, 109, 101, 110, 116] : List UInt8)))
  else
   chk (x5.length + ([58, 32, 98, 97, 100, 32, 97, 114, 103, 117, 109, 101, 110, 116] : List UInt8).length ≤ 9223372036854775807) <|
   some ((PVal.mk 0 0 ([] : List UInt8)), (x5 ++ ([58, 32, 98, 97, 100, 32, 97, 114, 103, 117, 109, 101, 110, 116] : List UInt8)))
def i_applied (primitive : Int) (args : List PVal) (pairs : List PPair) : Option (PVal × List UInt8) :=
 bnd (i_PrimitiveNames) fun x4 =>
 bnd (nth x4 primitive) fun x5 =>
 bnd (nth args 0) fun x6 =>
 if x5 = ([110, 117, 108, 108, 63] : List UInt8) then
  bnd (i_booleanOf (decide (x6.kind = 1))) fun x7 =>
  some (x7, ([] : List UInt8))
 else
  if x5 = ([112, 97, 105, 114, 63] : List UInt8) then
   bnd (i_booleanOf (decide (x6.kind = 7))) fun x7 =>
   some (x7, ([] : List UInt8))
  else
   if x5 = ([110, 117, 109, 98, 101, 114, 63] : List UInt8) then
    bnd (i_booleanOf (decide (x6.kind = 3))) fun x7 =>
    some (x7, ([] : List UInt8))
   else
    if x5 = ([110, 111, 116] : List UInt8) then
     bnd (i_isFalse x6) fun x7 =>
     bnd (i_booleanOf x7) fun x8 =>
     some (x8, ([] : List UInt8))
    else
     if x5 = ([101, 113, 63] : List UInt8) then
      bnd (nth args 1) fun x7 =>
      bnd (i_booleanOf (decide (x6 = x7))) fun x8 =>
      some (x8, ([] : List UInt8))
     else
      if x5 = ([99, 97, 114] : List UInt8) then
       i_applied_J1 args pairs x5 x6 true
      else
       i_applied_J1 args pairs x5 x6 (decide (x5 = ([99, 100, 114] : List UInt8)))
def i_folded_L1b (c : PCore) (x3 : PCore) (go8 : (Int × List PVal) → Option (PCore × Bool)) (x6 : Int) (args7 : List PVal) : Option (PCore × Bool) :=
 if x6 < ((c.kids.drop (1 : Int).toNat).length : Int) then
  bnd (nth (c.kids.drop (1 : Int).toNat) x6) fun x9 =>
  bnd (i_isAtom x9) fun x10 =>
  if x10 = true then
   bnd (i_valueOf RF x9.datum []) fun x11 =>
   chk ((args7.length + ([x11.1] : List PVal).length) * 32 ≤ 140737488355328) <|
   chk (I64 (x6 + 1)) <|
   go8 ((x6 + 1), (args7 ++ ([x11.1] : List PVal)))
  else
   some ((PCore.mk 0 0 [] (PDat.mk 0 0 ([] : List UInt8) []) []), false)
 else
  bnd (i_applied x3.number args7 []) fun x9 =>
  if x9.2 = ([] : List UInt8) then
   if x9.1.kind = 1 then
    some ((PCore.mk 1 0 [] (PDat.mk 0 0 ([] : List UInt8) []) []), true)
   else
    if x9.1.kind = 2 then
     some ((PCore.mk 1 0 [] (PDat.mk 3 x9.1.number ([] : List UInt8) []) []), true)
    else
     if x9.1.kind = 3 then
      some ((PCore.mk 1 0 [] (PDat.mk 2 x9.1.number ([] : List UInt8) []) []), true)
     else
      some ((PCore.mk 0 0 [] (PDat.mk 0 0 ([] : List UInt8) []) []), false)
  else
   some ((PCore.mk 0 0 [] (PDat.mk 0 0 ([] : List UInt8) []) []), false)
def i_folded_L1 (c : PCore) (x3 : PCore) (go : (Int × List PVal) → Option (PCore × Bool)) (v : Int × List PVal) : Option (PCore × Bool) :=
 match v with
 | (x6, args7) => i_folded_L1b c x3 go x6 args7
def i_folded (c : PCore) : Option (PCore × Bool) :=
 if c.kind = 6 then
  bnd (nth c.kids 0) fun x2 =>
  if x2.kind = 3 then
   bnd (nth c.kids 0) fun x3 =>
   bnd (i_isPure x3.number) fun x4 =>
   if x4 = true then
    chk (I64 ((c.kids.length : Int) - 1)) <|
    bnd (i_ArityOf x3.number) fun x5 =>
    if ((c.kids.length : Int) - 1) = x5 then
     chk (0 ≤ (1 : Int) ∧ (1 : Int) ≤ c.kids.length) <|
     itr (i_folded_L1 c x3) LF (0, [])
    else
     some ((PCore.mk 0 0 [] (PDat.mk 0 0 ([] : List UInt8) []) []), false)
   else
    some ((PCore.mk 0 0 [] (PDat.mk 0 0 ([] : List UInt8) []) []), false)
  else
   some ((PCore.mk 0 0 [] (PDat.mk 0 0 ([] : List UInt8) []) []), false)
 else
  some ((PCore.mk 0 0 [] (PDat.mk 0 0 ([] : List UInt8) []) []), false)
def i_simpleTerm (c : PCore) (boxed : List (Int × Int)) : Option Bool :=
 bnd (i_isAtom c) fun x3 =>
 if x3 = true then
  some true
 else
  if c.kind = 3 then
   some true
  else
   if c.kind = 2 then
    some (decide ((mget boxed c.number) = 0))
   else
    some false
def i_copyInts (list : List Int) : Option (List Int) :=
 chk (list.length * 8 ≤ 140737488355328) <|
 some list
def i_copyDatum_b (i_copyDatum : PDat → Option PDat) (i_copyData : List PDat → Option (List PDat)) (d : PDat) : Option PDat :=
 bnd (i_copyData d.items) fun x4 =>
 some (PDat.mk d.kind d.number d.text x4)
def i_copyData_L1b (i_copyDatum : PDat → Option PDat) (list : List PDat) (go6 : (Int × List PDat) → Option (List PDat)) (x4 : Int) (out5 : List PDat) : Option (List PDat) :=
 if x4 < (list.length : Int) then
  bnd (nth list x4) fun x7 =>
  bnd (i_copyDatum x7) fun x8 =>
  chk ((out5.length + ([x8] : List PDat).length) * 56 ≤ 140737488355328) <|
  chk (I64 (x4 + 1)) <|
  go6 ((x4 + 1), (out5 ++ ([x8] : List PDat)))
 else
  some out5
def i_copyData_L1 (i_copyDatum : PDat → Option PDat) (list : List PDat) (go : (Int × List PDat) → Option (List PDat)) (v : Int × List PDat) : Option (List PDat) :=
 match v with
 | (x4, out5) => i_copyData_L1b i_copyDatum list go x4 out5
def i_copyData_b (i_copyDatum : PDat → Option PDat) (i_copyData : List PDat → Option (List PDat)) (list : List PDat) : Option (List PDat) :=
 itr (i_copyData_L1 i_copyDatum list) LF (0, [])
mutual
def i_copyDatum : Nat → PDat → Option PDat
 | 0, _ => none
 | n + 1, d => i_copyDatum_b (i_copyDatum n) (i_copyData n) d
def i_copyData : Nat → List PDat → Option (List PDat)
 | 0, _ => none
 | n + 1, list => i_copyData_b (i_copyDatum n) (i_copyData n) list
end
def i_copyCore_L1b (i_copyCore : PCore → Option PCore) (c : PCore) (x3 : List Int) (x4 : PDat) (go7 : (Int × List PCore) → Option PCore) (x5 : Int) (x6 : List PCore) : Option PCore :=
 if x5 < (c.kids.length : Int) then
  bnd (nth c.kids x5) fun x8 =>
  bnd (i_copyCore x8) fun x9 =>
  chk ((x6.length + ([x9] : List PCore).length) * 120 ≤ 140737488355328) <|
  chk (I64 (x5 + 1)) <|
  go7 ((x5 + 1), (x6 ++ ([x9] : List PCore)))
 else
  some (PCore.mk c.kind c.number x3 x4 x6)
def i_copyCore_L1 (i_copyCore : PCore → Option PCore) (c : PCore) (x3 : List Int) (x4 : PDat) (go : (Int × List PCore) → Option PCore) (v : Int × List PCore) : Option PCore :=
 match v with
 | (x5, x6) => i_copyCore_L1b i_copyCore c x3 x4 go x5 x6
def i_copyCore_b (i_copyCore : PCore → Option PCore) (c : PCore) : Option PCore :=
 bnd (i_copyInts c.params) fun x3 =>
 bnd (i_copyDatum RF c.datum) fun x4 =>
 itr (i_copyCore_L1 i_copyCore c x3 x4) LF (0, [])
def i_copyCore : Nat → PCore → Option PCore
 | 0, _ => none
 | n + 1, c => i_copyCore_b (i_copyCore n) c
def i_substituted_L2b (i_substituted : PCore → Int → PCore → Option PCore) (c : PCore) (x_1 : Int) (simple : PCore) (x6 : PCore) (go9 : (Int × List PCore) → Option PCore) (x7 : Int) (x8 : List PCore) : Option PCore :=
 if x7 < (c.kids.length : Int) then
  bnd (nth c.kids x7) fun x10 =>
  bnd (i_substituted x10 x_1 simple) fun x11 =>
  chk ((x8.length + ([x11] : List PCore).length) * 120 ≤ 140737488355328) <|
  chk (I64 (x7 + 1)) <|
  go9 ((x7 + 1), (x8 ++ ([x11] : List PCore)))
 else
  some (PCore.mk x6.kind x6.number x6.params x6.datum x8)
def i_substituted_L2 (i_substituted : PCore → Int → PCore → Option PCore) (c : PCore) (x_1 : Int) (simple : PCore) (x6 : PCore) (go : (Int × List PCore) → Option PCore) (v : Int × List PCore) : Option PCore :=
 match v with
 | (x7, x8) => i_substituted_L2b i_substituted c x_1 simple x6 go x7 x8
def i_substituted_J1 (i_substituted : PCore → Int → PCore → Option PCore) (c : PCore) (x_1 : Int) (simple : PCore) (x5 : Bool) : Option PCore :=
 if x5 = true then
  bnd (i_copyCore RF simple) fun x6 =>
  some x6
 else
  bnd (i_copyCore RF (PCore.mk c.kind c.number c.params c.datum [])) fun x6 =>
  itr (i_substituted_L2 i_substituted c x_1 simple x6) LF (0, x6.kids)
def i_substituted_b (i_substituted : PCore → Int → PCore → Option PCore) (c : PCore) (x_1 : Int) (simple : PCore) : Option PCore :=
 if c.kind = 2 then
  i_substituted_J1 i_substituted c x_1 simple (decide (c.number = x_1))
 else
  i_substituted_J1 i_substituted c x_1 simple false
def i_substituted : Nat → PCore → Int → PCore → Option PCore
 | 0, _, _, _ => none
 | n + 1, c, x_1, simple => i_substituted_b (i_substituted n) c x_1 simple
def i_simplified_L2b (c : PCore) (x4 : PCore) (go18 : (Int × Int × Int × Int × Int × List UInt8 × List Int × List PDat × List PCore) → Option (PCore × Bool)) (x9 : Int) (out10 : Int) (out11 : Int) (out12 : Int) (out13 : Int) (out14 : List UInt8) (x15 : List Int) (x16 : List PDat) (x17 : List PCore) : Option (PCore × Bool) :=
 if x9 < (x4.params.length : Int) then
  bnd (nth x4.params x9) fun x19 =>
  chk (I64 (x9 + 1)) <|
  bnd (nth c.kids (x9 + 1)) fun x20 =>
  bnd (i_substituted RF (PCore.mk out10 out11 x15 (PDat.mk out12 out13 out14 x16) x17) x19 x20) fun x21 =>
  chk (I64 (x9 + 1)) <|
  go18 ((x9 + 1), x21.kind, x21.number, x21.datum.kind, x21.datum.number, x21.datum.text, x21.params, x21.datum.items, x21.kids)
 else
  some ((PCore.mk out10 out11 x15 (PDat.mk out12 out13 out14 x16) x17), true)
def i_simplified_L2 (c : PCore) (x4 : PCore) (go : (Int × Int × Int × Int × Int × List UInt8 × List Int × List PDat × List PCore) → Option (PCore × Bool)) (v : Int × Int × Int × Int × Int × List UInt8 × List Int × List PDat × List PCore) : Option (PCore × Bool) :=
 match v with
 | (x9, out10, out11, out12, out13, out14, x15, x16, x17) => i_simplified_L2b c x4 go x9 out10 out11 out12 out13 out14 x15 x16 x17
def i_simplified_L1b (c : PCore) (boxed : List (Int × Int)) (x4 : PCore) (go6 : Int → Option (PCore × Bool)) (x5 : Int) : Option (PCore × Bool) :=
 if x5 < (x4.params.length : Int) then
  bnd (nth x4.params x5) fun x7 =>
  if (mget boxed x7) = 1 then
   some ((PCore.mk 0 0 [] (PDat.mk 0 0 ([] : List UInt8) []) []), false)
  else
   chk (I64 (x5 + 1)) <|
   bnd (nth c.kids (x5 + 1)) fun x8 =>
   bnd (i_simpleTerm x8 boxed) fun x9 =>
   if x9 = true then
    chk (I64 (x5 + 1)) <|
    go6 (x5 + 1)
   else
    some ((PCore.mk 0 0 [] (PDat.mk 0 0 ([] : List UInt8) []) []), false)
 else
  bnd (nth x4.kids 0) fun x7 =>
  bnd (i_copyCore RF x7) fun x8 =>
  itr (i_simplified_L2 c x4) LF (0, x8.kind, x8.number, x8.datum.kind, x8.datum.number, x8.datum.text, x8.params, x8.datum.items, x8.kids)
def i_simplified_L1 (c : PCore) (boxed : List (Int × Int)) (x4 : PCore) (go : Int → Option (PCore × Bool)) (v : Int) : Option (PCore × Bool) :=
 match v with
 | x5 => i_simplified_L1b c boxed x4 go x5
def i_simplified_J3 (c : PCore) (x6 : Bool) : Option (PCore × Bool) :=
 if x6 = true then
  bnd (nth c.kids 2) fun x7 =>
  bnd (i_copyCore RF x7) fun x8 =>
  some (x8, true)
 else
  bnd (nth c.kids 1) fun x7 =>
  bnd (i_copyCore RF x7) fun x8 =>
  some (x8, true)
def i_simplified_J5 (x3 : Int) (go5 : (Int × List PCore) → Option (PCore × Bool)) (kids6 : List PCore) : Option (PCore × Bool) :=
 chk (I64 (x3 + 1)) <|
 go5 ((x3 + 1), kids6)
def i_simplified_J7 (x3 : Int) (kids4 : List PCore) (go5 : (Int × List PCore) → Option (PCore × Bool)) (x6 : PCore) (x8 : Bool) : Option (PCore × Bool) :=
 if x8 = true then
  bnd (i_copyCore RF x6) fun x9 =>
  chk ((kids4.length + ([x9] : List PCore).length) * 120 ≤ 140737488355328) <|
  i_simplified_J5 x3 go5 (kids4 ++ ([x9] : List PCore))
 else
  i_simplified_J5 x3 go5 kids4
def i_simplified_J6 (c : PCore) (x3 : Int) (kids4 : List PCore) (go5 : (Int × List PCore) → Option (PCore × Bool)) (x6 : PCore) (idle7 : Bool) : Option (PCore × Bool) :=
 if idle7 = true then
  chk (I64 (x3 + 1)) <|
  i_simplified_J7 x3 kids4 go5 x6 (decide ((x3 + 1) = (c.kids.length : Int)))
 else
  i_simplified_J7 x3 kids4 go5 x6 true
def i_simplified_L4b (c : PCore) (go5 : (Int × List PCore) → Option (PCore × Bool)) (x3 : Int) (kids4 : List PCore) : Option (PCore × Bool) :=
 if x3 < (c.kids.length : Int) then
  bnd (nth c.kids x3) fun x6 =>
  if x6.kind = 1 then
   i_simplified_J6 c x3 kids4 go5 x6 true
  else
   if x6.kind = 3 then
    i_simplified_J6 c x3 kids4 go5 x6 true
   else
    i_simplified_J6 c x3 kids4 go5 x6 (decide (x6.kind = 5))
 else
  if (kids4.length : Int) = (c.kids.length : Int) then
   some ((PCore.mk 0 0 [] (PDat.mk 0 0 ([] : List UInt8) []) []), false)
  else
   if (kids4.length : Int) = 1 then
    bnd (nth kids4 0) fun x6 =>
    some (x6, true)
   else
    some ((PCore.mk 8 0 [] (PDat.mk 0 0 ([] : List UInt8) []) kids4), true)
def i_simplified_L4 (c : PCore) (go : (Int × List PCore) → Option (PCore × Bool)) (v : Int × List PCore) : Option (PCore × Bool) :=
 match v with
 | (x3, kids4) => i_simplified_L4b c go x3 kids4
def i_simplified (c : PCore) (boxed : List (Int × Int)) : Option (PCore × Bool) :=
 if c.kind = 6 then
  bnd (i_folded c) fun x3 =>
  if x3.2 = true then
   some (x3.1, true)
  else
   bnd (nth c.kids 0) fun x4 =>
   if x4.kind = 5 then
    chk (I64 ((c.kids.length : Int) - 1)) <|
    if (x4.params.length : Int) = ((c.kids.length : Int) - 1) then
     itr (i_simplified_L1 c boxed x4) LF 0
    else
     some ((PCore.mk 0 0 [] (PDat.mk 0 0 ([] : List UInt8) []) []), false)
   else
    some ((PCore.mk 0 0 [] (PDat.mk 0 0 ([] : List UInt8) []) []), false)
 else
  if c.kind = 7 then
   bnd (nth c.kids 0) fun x3 =>
   bnd (i_isAtom x3) fun x4 =>
   if x4 = true then
    bnd (nth c.kids 0) fun x5 =>
    if x5.datum.kind = 3 then
     i_simplified_J3 c (decide (x5.datum.number = 0))
    else
     i_simplified_J3 c false
   else
    some ((PCore.mk 0 0 [] (PDat.mk 0 0 ([] : List UInt8) []) []), false)
  else
   if c.kind = 8 then
    itr (i_simplified_L4 c) LF (0, [])
   else
    some ((PCore.mk 0 0 [] (PDat.mk 0 0 ([] : List UInt8) []) []), false)
def i_setOf_L2b (x2 : Int) (go4 : (Int × (List (Int × Int))) → Option (List (Int × Int))) (x5 : List Int) (go8 : (Int × (List (Int × Int))) → Option (List (Int × Int))) (x6 : Int) (out7 : List (Int × Int)) : Option (List (Int × Int)) :=
 if x6 < (x5.length : Int) then
  bnd (nth x5 x6) fun x9 =>
  chk (I64 (x6 + 1)) <|
  go8 ((x6 + 1), (mput out7 x9 1))
 else
  chk (I64 (x2 + 1)) <|
  go4 ((x2 + 1), out7)
def i_setOf_L2 (x2 : Int) (go4 : (Int × (List (Int × Int))) → Option (List (Int × Int))) (x5 : List Int) (go : (Int × (List (Int × Int))) → Option (List (Int × Int))) (v : Int × (List (Int × Int))) : Option (List (Int × Int)) :=
 match v with
 | (x6, out7) => i_setOf_L2b x2 go4 x5 go x6 out7
def i_setOf_L1b (lists : List (List Int)) (go4 : (Int × (List (Int × Int))) → Option (List (Int × Int))) (x2 : Int) (out3 : List (Int × Int)) : Option (List (Int × Int)) :=
 if x2 < (lists.length : Int) then
  bnd (nth lists x2) fun x5 =>
  itr (i_setOf_L2 x2 go4 x5) LF (0, out3)
 else
  some out3
def i_setOf_L1 (lists : List (List Int)) (go : (Int × (List (Int × Int))) → Option (List (Int × Int))) (v : Int × (List (Int × Int))) : Option (List (Int × Int)) :=
 match v with
 | (x2, out3) => i_setOf_L1b lists go x2 out3
def i_setOf (lists : List (List Int)) : Option (List (Int × Int)) :=
 itr (i_setOf_L1 lists) LF (0, ([] : List (Int × Int)))
def i_SimplifyNode (c : PCore) (boxed : List Int) : Option (PCore × Bool) :=
 bnd (i_validCore c) fun x3 =>
 if x3 = true then
  bnd (i_setOf ([boxed] : List (List Int))) fun x4 =>
  bnd (i_simplified c x4) fun x5 =>
  some (x5.1, x5.2)
 else
  some ((PCore.mk 0 0 [] (PDat.mk 0 0 ([] : List UInt8) []) []), false)
end Go.Abs

namespace Go.Abs
set_option linter.unusedVariables false
def s_l2Ints (list : List Int) : Option (List Int) :=
 chk ((([] : List Int).length + list.length) * 8 ≤ 140737488355328) <|
 some (([] : List Int) ++ list)
def s_l5Few_J2 (s_l5Few : PCore → Int → Option (Bool × Int)) (c : PCore) (i4 : Int) (left5 : Int) (go6 : (Int × Int) → Option (Bool × Int)) (x7 : Bool) : Option (Bool × Int) :=
 if x7 = true then
  bnd (nth c.kids i4) fun x8 =>
  bnd (s_l5Few x8 left5) fun x9 =>
  chk (I64 (i4 + 1)) <|
  go6 ((i4 + 1), x9.2)
 else
  some ((decide (left5 ≥ 0)), left5)
def s_l5Few_L1b (s_l5Few : PCore → Int → Option (Bool × Int)) (c : PCore) (go6 : (Int × Int) → Option (Bool × Int)) (i4 : Int) (left5 : Int) : Option (Bool × Int) :=
 if i4 < (c.kids.length : Int) then
  s_l5Few_J2 s_l5Few c i4 left5 go6 (decide (left5 ≥ 0))
 else
  s_l5Few_J2 s_l5Few c i4 left5 go6 false
def s_l5Few_L1 (s_l5Few : PCore → Int → Option (Bool × Int)) (c : PCore) (go : (Int × Int) → Option (Bool × Int)) (v : Int × Int) : Option (Bool × Int) :=
 match v with
 | (i4, left5) => s_l5Few_L1b s_l5Few c go i4 left5
def s_l5Few_b (s_l5Few : PCore → Int → Option (Bool × Int)) (c : PCore) (left : Int) : Option (Bool × Int) :=
 chk (I64 (left - 1)) <|
 itr (s_l5Few_L1 s_l5Few c) LF (0, (left - 1))
def s_l5Few : Nat → PCore → Int → Option (Bool × Int)
 | 0, _, _ => none
 | n + 1, c, left => s_l5Few_b (s_l5Few n) c left
def s_l5Small (c : PCore) : Option Bool :=
 bnd (s_l5Few RF c 3000) fun x2 =>
 some x2.1
def s_HasScope_L1b (list : List Int) (x_1 : Int) (go4 : Int → Option Bool) (x3 : Int) : Option Bool :=
 if x3 < (list.length : Int) then
  bnd (nth list x3) fun x5 =>
  if x5 = x_1 then
   some true
  else
   chk (I64 (x3 + 1)) <|
   go4 (x3 + 1)
 else
  some false
def s_HasScope_L1 (list : List Int) (x_1 : Int) (go : Int → Option Bool) (v : Int) : Option Bool :=
 match v with
 | x3 => s_HasScope_L1b list x_1 go x3
def s_HasScope (list : List Int) (x_1 : Int) : Option Bool :=
 itr (s_HasScope_L1 list x_1) LF 0
def s_l5Names (c : PCore) : Option Bool :=
 if c.kind = 2 then
  some true
 else
  some (decide (c.kind = 4))
def s_l5Free_L3b (s_l5Free : PCore → List Int → List Int → Option (List Int)) (c : PCore) (x7 : List Int) (go10 : (Int × List Int) → Option (List Int)) (x8 : Int) (out9 : List Int) : Option (List Int) :=
 if x8 < (c.kids.length : Int) then
  bnd (nth c.kids x8) fun x11 =>
  bnd (s_l5Free x11 (x7 ++ c.params) out9) fun x12 =>
  chk (I64 (x8 + 1)) <|
  go10 ((x8 + 1), x12)
 else
  some out9
def s_l5Free_L3 (s_l5Free : PCore → List Int → List Int → Option (List Int)) (c : PCore) (x7 : List Int) (go : (Int × List Int) → Option (List Int)) (v : Int × List Int) : Option (List Int) :=
 match v with
 | (x8, out9) => s_l5Free_L3b s_l5Free c x7 go x8 out9
def s_l5Free_J2 (s_l5Free : PCore → List Int → List Int → Option (List Int)) (c : PCore) (bound : List Int) (out6 : List Int) : Option (List Int) :=
 bnd (s_l2Ints bound) fun x7 =>
 chk ((x7.length + c.params.length) * 8 ≤ 140737488355328) <|
 itr (s_l5Free_L3 s_l5Free c x7) LF (0, out6)
def s_l5Free_J1 (s_l5Free : PCore → List Int → List Int → Option (List Int)) (c : PCore) (bound : List Int) (out : List Int) (x5 : Bool) : Option (List Int) :=
 if x5 = true then
  chk ((out.length + ([c.number] : List Int).length) * 8 ≤ 140737488355328) <|
  s_l5Free_J2 s_l5Free c bound (out ++ ([c.number] : List Int))
 else
  s_l5Free_J2 s_l5Free c bound out
def s_l5Free_b (s_l5Free : PCore → List Int → List Int → Option (List Int)) (c : PCore) (bound : List Int) (out : List Int) : Option (List Int) :=
 bnd (s_l5Names c) fun x5 =>
 if x5 = true then
  bnd (s_HasScope bound c.number) fun x6 =>
  if x6 = true then
   s_l5Free_J1 s_l5Free c bound out false
  else
   bnd (s_HasScope out c.number) fun x7 =>
   s_l5Free_J1 s_l5Free c bound out (!x7)
 else
  s_l5Free_J1 s_l5Free c bound out false
def s_l5Free : Nat → PCore → List Int → List Int → Option (List Int)
 | 0, _, _, _ => none
 | n + 1, c, bound, out => s_l5Free_b (s_l5Free n) c bound out
def s_l5FreeA_L3b (c : PCore) (x6 : List Int) (go9 : (Int × List Int) → Option (List Int)) (x7 : Int) (out8 : List Int) : Option (List Int) :=
 if x7 < (c.kids.length : Int) then
  bnd (nth c.kids x7) fun x10 =>
  bnd (s_l5Free RF x10 (x6 ++ c.params) out8) fun x11 =>
  chk (I64 (x7 + 1)) <|
  go9 ((x7 + 1), x11)
 else
  some out8
def s_l5FreeA_L3 (c : PCore) (x6 : List Int) (go : (Int × List Int) → Option (List Int)) (v : Int × List Int) : Option (List Int) :=
 match v with
 | (x7, out8) => s_l5FreeA_L3b c x6 go x7 out8
def s_l5FreeA_J2 (c : PCore) (bound : List Int) (out5 : List Int) : Option (List Int) :=
 bnd (s_l2Ints bound) fun x6 =>
 chk ((x6.length + c.params.length) * 8 ≤ 140737488355328) <|
 itr (s_l5FreeA_L3 c x6) LF (0, out5)
def s_l5FreeA_J1 (c : PCore) (bound : List Int) (out : List Int) (x4 : Bool) : Option (List Int) :=
 if x4 = true then
  chk ((out.length + ([c.number] : List Int).length) * 8 ≤ 140737488355328) <|
  s_l5FreeA_J2 c bound (out ++ ([c.number] : List Int))
 else
  s_l5FreeA_J2 c bound out
def s_l5FreeA (c : PCore) (bound : List Int) (out : List Int) : Option (List Int) :=
 bnd (s_l5Names c) fun x4 =>
 if x4 = true then
  bnd (s_HasScope bound c.number) fun x5 =>
  if x5 = true then
   s_l5FreeA_J1 c bound out false
  else
   bnd (s_HasScope out c.number) fun x6 =>
   s_l5FreeA_J1 c bound out (!x6)
 else
  s_l5FreeA_J1 c bound out false
def s_FreeVariables (c : PCore) : Option (List Int) :=
 bnd (s_l5FreeA c [] ([] : List Int)) fun x2 =>
 some x2
def s_DepthOfCore_L1b (s_DepthOfCore : PCore → Option Int) (c : PCore) (go5 : (Int × Int) → Option Int) (x3 : Int) (x4 : Int) : Option Int :=
 if x4 < (c.kids.length : Int) then
  bnd (nth c.kids x4) fun x6 =>
  bnd (s_DepthOfCore x6) fun x7 =>
  chk (I64 (x4 + 1)) <|
  go5 ((max x3 x7), (x4 + 1))
 else
  chk (I64 (x3 + 1)) <|
  some (x3 + 1)
def s_DepthOfCore_L1 (s_DepthOfCore : PCore → Option Int) (c : PCore) (go : (Int × Int) → Option Int) (v : Int × Int) : Option Int :=
 match v with
 | (x3, x4) => s_DepthOfCore_L1b s_DepthOfCore c go x3 x4
def s_DepthOfCore_b (s_DepthOfCore : PCore → Option Int) (c : PCore) : Option Int :=
 itr (s_DepthOfCore_L1 s_DepthOfCore c) LF (0, 0)
def s_DepthOfCore : Nat → PCore → Option Int
 | 0, _ => none
 | n + 1, c => s_DepthOfCore_b (s_DepthOfCore n) c
def s_l1In (x_1 : Int) (a : Int) (b : Int) : Option Bool :=
 if x_1 ≥ a then
  some (decide (x_1 ≤ b))
 else
  some false
def s_PrimitiveNames : Option (List (List UInt8)) :=
 some ([([43] : List UInt8), ([45] : List UInt8), ([42] : List UInt8), ([61] : List UInt8), ([60] : List UInt8), ([99, 111, 110, 115] : List UInt8), ([99, 97, 114] : List UInt8), ([99, 100, 114] : List UInt8), ([110, 117, 108, 108, 63] : List UInt8), ([112, 97, 105, 114, 63] : List UInt8), ([110, 117, 109, 98, 101, 114, 63] : List UInt8), ([101, 113, 63] : List UInt8), ([110, 111, 116] : List UInt8), ([100, 105, 115, 112, 108, 97, 121] : List UInt8)] : List (List UInt8))
def s_EqualData_L1b (s_EqualData : PDat → PDat → Option Bool) (a : PDat) (b : PDat) (go5 : Int → Option Bool) (x4 : Int) : Option Bool :=
 if x4 < (a.items.length : Int) then
  bnd (nth a.items x4) fun x6 =>
  bnd (nth b.items x4) fun x7 =>
  bnd (s_EqualData x6 x7) fun x8 =>
  if x8 = true then
   chk (I64 (x4 + 1)) <|
   go5 (x4 + 1)
  else
   some false
 else
  some true
def s_EqualData_L1 (s_EqualData : PDat → PDat → Option Bool) (a : PDat) (b : PDat) (go : Int → Option Bool) (v : Int) : Option Bool :=
 match v with
 | x4 => s_EqualData_L1b s_EqualData a b go x4
def s_EqualData_b (s_EqualData : PDat → PDat → Option Bool) (a : PDat) (b : PDat) : Option Bool :=
 if a.kind = b.kind then
  if a.number = b.number then
   if a.text = b.text then
    if (a.items.length : Int) = (b.items.length : Int) then
     itr (s_EqualData_L1 s_EqualData a b) LF 0
    else
     some false
   else
    some false
  else
   some false
 else
  some false
def s_EqualData : Nat → PDat → PDat → Option Bool
 | 0, _, _ => none
 | n + 1, a, b => s_EqualData_b (s_EqualData n) a b
def s_l1Few_J2 (s_l1Few : PDat → Int → Option (Bool × Int)) (d : PDat) (i4 : Int) (left5 : Int) (go6 : (Int × Int) → Option (Bool × Int)) (x7 : Bool) : Option (Bool × Int) :=
 if x7 = true then
  bnd (nth d.items i4) fun x8 =>
  bnd (s_l1Few x8 left5) fun x9 =>
  chk (I64 (i4 + 1)) <|
  go6 ((i4 + 1), x9.2)
 else
  some ((decide (left5 ≥ 0)), left5)
def s_l1Few_L1b (s_l1Few : PDat → Int → Option (Bool × Int)) (d : PDat) (go6 : (Int × Int) → Option (Bool × Int)) (i4 : Int) (left5 : Int) : Option (Bool × Int) :=
 if i4 < (d.items.length : Int) then
  s_l1Few_J2 s_l1Few d i4 left5 go6 (decide (left5 ≥ 0))
 else
  s_l1Few_J2 s_l1Few d i4 left5 go6 false
def s_l1Few_L1 (s_l1Few : PDat → Int → Option (Bool × Int)) (d : PDat) (go : (Int × Int) → Option (Bool × Int)) (v : Int × Int) : Option (Bool × Int) :=
 match v with
 | (i4, left5) => s_l1Few_L1b s_l1Few d go i4 left5
def s_l1Few_b (s_l1Few : PDat → Int → Option (Bool × Int)) (d : PDat) (left : Int) : Option (Bool × Int) :=
 chk (I64 (left - 1)) <|
 itr (s_l1Few_L1 s_l1Few d) LF (0, (left - 1))
def s_l1Few : Nat → PDat → Int → Option (Bool × Int)
 | 0, _, _ => none
 | n + 1, d, left => s_l1Few_b (s_l1Few n) d left
def s_DepthOf_L1b (s_DepthOf : PDat → Option Int) (d : PDat) (go5 : (Int × Int) → Option Int) (x3 : Int) (x4 : Int) : Option Int :=
 if x4 < (d.items.length : Int) then
  bnd (nth d.items x4) fun x6 =>
  bnd (s_DepthOf x6) fun x7 =>
  chk (I64 (x4 + 1)) <|
  go5 ((max x3 x7), (x4 + 1))
 else
  chk (I64 (x3 + 1)) <|
  some (x3 + 1)
def s_DepthOf_L1 (s_DepthOf : PDat → Option Int) (d : PDat) (go : (Int × Int) → Option Int) (v : Int × Int) : Option Int :=
 match v with
 | (x3, x4) => s_DepthOf_L1b s_DepthOf d go x3 x4
def s_DepthOf_b (s_DepthOf : PDat → Option Int) (d : PDat) : Option Int :=
 itr (s_DepthOf_L1 s_DepthOf d) LF (0, 0)
def s_DepthOf : Nat → PDat → Option Int
 | 0, _ => none
 | n + 1, d => s_DepthOf_b (s_DepthOf n) d
def s_l1Digit (b : Int) : Option Bool :=
 if b ≥ 48 then
  some (decide (b ≤ 57))
 else
  some false
def s_l1Mark_L2b (b : Int) (go4 : Int → Option Bool) (i3 : Int) : Option Bool :=
 if i3 < (([33, 63, 42, 60, 62, 61, 47, 43, 45, 46, 95] : List UInt8).length : Int) then
  bnd (nth ([33, 63, 42, 60, 62, 61, 47, 43, 45, 46, 95] : List UInt8) i3) fun x5 =>
  if (x5.toNat : Int) = b then
   some true
  else
   chk (I64 (i3 + 1)) <|
   go4 (i3 + 1)
 else
  some false
def s_l1Mark_L2 (b : Int) (go : Int → Option Bool) (v : Int) : Option Bool :=
 match v with
 | i3 => s_l1Mark_L2b b go i3
def s_l1Mark_J1 (b : Int) (x2 : Bool) : Option Bool :=
 if x2 = true then
  some true
 else
  itr (s_l1Mark_L2 b) LF 0
def s_l1Mark (b : Int) : Option Bool :=
 if b ≥ 97 then
  if b ≤ 122 then
   s_l1Mark_J1 b true
  else
   bnd (s_l1Digit b) fun x2 =>
   s_l1Mark_J1 b x2
 else
  bnd (s_l1Digit b) fun x2 =>
  s_l1Mark_J1 b x2
def s_IsSymbol_L2b (s : List UInt8) (go4 : Int → Option Bool) (i3 : Int) : Option Bool :=
 if i3 < (s.length : Int) then
  bnd (nth s i3) fun x5 =>
  bnd (s_l1Mark (x5.toNat : Int)) fun x6 =>
  if x6 = true then
   chk (I64 (i3 + 1)) <|
   go4 (i3 + 1)
  else
   some false
 else
  some true
def s_IsSymbol_L2 (s : List UInt8) (go : Int → Option Bool) (v : Int) : Option Bool :=
 match v with
 | i3 => s_IsSymbol_L2b s go i3
def s_IsSymbol_J1 (s : List UInt8) (x2 : Bool) : Option Bool :=
 if x2 = true then
  some false
 else
  itr (s_IsSymbol_L2 s) LF 0
def s_IsSymbol (s : List UInt8) : Option Bool :=
 bnd (s_l1In (s.length : Int) 1 16) fun x2 =>
 if x2 = true then
  bnd (nth s 0) fun x3 =>
  bnd (s_l1Digit (x3.toNat : Int)) fun x4 =>
  if x4 = true then
   s_IsSymbol_J1 s true
  else
   bnd (nth s 0) fun x5 =>
   if (x5.toNat : Int) = 45 then
    if (s.length : Int) > 1 then
     bnd (nth s 1) fun x6 =>
     bnd (s_l1Digit (x6.toNat : Int)) fun x7 =>
     s_IsSymbol_J1 s x7
    else
     s_IsSymbol_J1 s false
   else
    s_IsSymbol_J1 s false
 else
  s_IsSymbol_J1 s true
def s_l1String_L1b (s : List UInt8) (go3 : Int → Option Bool) (i2 : Int) : Option Bool :=
 if i2 < (s.length : Int) then
  bnd (nth s i2) fun x4 =>
  if (x4.toNat : Int) < 32 then
   some false
  else
   bnd (nth s i2) fun x5 =>
   if (x5.toNat : Int) > 126 then
    some false
   else
    bnd (nth s i2) fun x6 =>
    if (x6.toNat : Int) = 34 then
     some false
    else
     chk (I64 (i2 + 1)) <|
     go3 (i2 + 1)
 else
  some (decide ((s.length : Int) ≤ 20))
def s_l1String_L1 (s : List UInt8) (go : Int → Option Bool) (v : Int) : Option Bool :=
 match v with
 | i2 => s_l1String_L1b s go i2
def s_l1String (s : List UInt8) : Option Bool :=
 itr (s_l1String_L1 s) LF 0
def s_l1Node (kind : Int) (number : Int) (text : List UInt8) (items : Int) : Option Bool :=
 if kind = 0 then
  if number = 0 then
   some (decide (text = ([] : List UInt8)))
  else
   some false
 else
  if kind = 1 then
   if number = 0 then
    bnd (s_IsSymbol text) fun x5 =>
    if x5 = true then
     some (decide (items = 0))
    else
     some false
   else
    some false
  else
   if kind = 2 then
    bnd (s_l1In number (-999999999) 999999999) fun x5 =>
    if x5 = true then
     if text = ([] : List UInt8) then
      some (decide (items = 0))
     else
      some false
    else
     some false
   else
    if kind = 3 then
     bnd (s_l1In number 0 1) fun x5 =>
     if x5 = true then
      if text = ([] : List UInt8) then
       some (decide (items = 0))
      else
       some false
     else
      some false
    else
     if kind = 4 then
      if number = 0 then
       bnd (s_l1String text) fun x5 =>
       if x5 = true then
        some (decide (items = 0))
       else
        some false
      else
       some false
     else
      some false
def s_l1Nodes_L1b (s_l1Nodes : PDat → Option Bool) (d : PDat) (go4 : Int → Option Bool) (x3 : Int) : Option Bool :=
 if x3 < (d.items.length : Int) then
  bnd (nth d.items x3) fun x5 =>
  bnd (s_l1Nodes x5) fun x6 =>
  if x6 = true then
   chk (I64 (x3 + 1)) <|
   go4 (x3 + 1)
  else
   some false
 else
  bnd (s_l1Node d.kind d.number d.text (d.items.length : Int)) fun x5 =>
  some x5
def s_l1Nodes_L1 (s_l1Nodes : PDat → Option Bool) (d : PDat) (go : Int → Option Bool) (v : Int) : Option Bool :=
 match v with
 | x3 => s_l1Nodes_L1b s_l1Nodes d go x3
def s_l1Nodes_b (s_l1Nodes : PDat → Option Bool) (d : PDat) : Option Bool :=
 itr (s_l1Nodes_L1 s_l1Nodes d) LF 0
def s_l1Nodes : Nat → PDat → Option Bool
 | 0, _ => none
 | n + 1, d => s_l1Nodes_b (s_l1Nodes n) d
def s_IsDatum (d : PDat) : Option Bool :=
 bnd (s_l1Few RF d 600) fun x2 =>
 if x2.1 = true then
  bnd (s_DepthOf RF d) fun x3 =>
  if x3 ≤ 20 then
   bnd (s_l1Nodes RF d) fun x4 =>
   some x4
  else
   some false
 else
  some false
def s_l5Shape_J1 (c : PCore) (x2 : Bool) : Option Bool :=
 if x2 = true then
  some false
 else
  if c.kind = 1 then
   if (c.kids.length : Int) = 0 then
    if (c.params.length : Int) = 0 then
     bnd (s_IsDatum c.datum) fun x3 =>
     some x3
    else
     some false
   else
    some false
  else
   if c.kind = 2 then
    if (c.kids.length : Int) = 0 then
     some (decide ((c.params.length : Int) = 0))
    else
     some false
   else
    if c.kind = 3 then
     if (c.kids.length : Int) = 0 then
      if (c.params.length : Int) = 0 then
       bnd (s_PrimitiveNames) fun x3 =>
       chk (I64 ((x3.length : Int) - 1)) <|
       bnd (s_l1In c.number 0 ((x3.length : Int) - 1)) fun x4 =>
       some x4
      else
       some false
     else
      some false
    else
     if c.kind = 4 then
      if (c.kids.length : Int) = 1 then
       some (decide ((c.params.length : Int) = 0))
      else
       some false
     else
      if c.kind = 5 then
       if (c.kids.length : Int) = 1 then
        some (decide ((c.params.length : Int) ≤ 8))
       else
        some false
      else
       if c.kind = 6 then
        bnd (s_l1In (c.kids.length : Int) 1 9) fun x3 =>
        if x3 = true then
         some (decide ((c.params.length : Int) = 0))
        else
         some false
       else
        if c.kind = 7 then
         if (c.kids.length : Int) = 3 then
          some (decide ((c.params.length : Int) = 0))
         else
          some false
        else
         if c.kind = 8 then
          bnd (s_l1In (c.kids.length : Int) 2 60) fun x3 =>
          if x3 = true then
           some (decide ((c.params.length : Int) = 0))
          else
           some false
         else
          if c.kind = 9 then
           bnd (s_l1In (c.kids.length : Int) 1 60) fun x3 =>
           if x3 = true then
            bnd (s_l1In (c.params.length : Int) 1 60) fun x4 =>
            some x4
           else
            some false
          else
           if c.kind = 10 then
            if (c.kids.length : Int) = 1 then
             some (decide ((c.params.length : Int) = 0))
            else
             some false
           else
            if c.kind = 11 then
             if (c.kids.length : Int) = 1 then
              some (decide ((c.params.length : Int) = 1))
             else
              some false
            else
             some false
def s_l5Shape (c : PCore) : Option Bool :=
 if c.kind = 1 then
  if c.number = 0 then
   s_l5Shape_J1 c false
  else
   bnd (s_l5Names c) fun x2 =>
   if x2 = true then
    s_l5Shape_J1 c false
   else
    s_l5Shape_J1 c (!decide (c.kind = 3))
 else
  bnd (s_EqualData RF c.datum (PDat.mk 0 0 ([] : List UInt8) [])) fun x2 =>
  if x2 = true then
   if c.number = 0 then
    s_l5Shape_J1 c false
   else
    bnd (s_l5Names c) fun x3 =>
    if x3 = true then
     s_l5Shape_J1 c false
    else
     s_l5Shape_J1 c (!decide (c.kind = 3))
  else
   s_l5Shape_J1 c true
def s_l5Nodes_J2 (x3 : Int) (go4 : Int → Option Bool) (x6 : Bool) : Option Bool :=
 if x6 = true then
  some false
 else
  chk (I64 (x3 + 1)) <|
  go4 (x3 + 1)
def s_l5Nodes_L1b (s_l5Nodes : PCore → Option Bool) (c : PCore) (go4 : Int → Option Bool) (x3 : Int) : Option Bool :=
 if x3 < (c.kids.length : Int) then
  bnd (nth c.kids x3) fun x5 =>
  bnd (s_l5Nodes x5) fun x6 =>
  if x6 = true then
   if c.kind = 8 then
    s_l5Nodes_J2 x3 go4 (decide (x5.kind = 8))
   else
    s_l5Nodes_J2 x3 go4 false
  else
   s_l5Nodes_J2 x3 go4 true
 else
  bnd (s_l5Shape c) fun x5 =>
  some x5
def s_l5Nodes_L1 (s_l5Nodes : PCore → Option Bool) (c : PCore) (go : Int → Option Bool) (v : Int) : Option Bool :=
 match v with
 | x3 => s_l5Nodes_L1b s_l5Nodes c go x3
def s_l5Nodes_b (s_l5Nodes : PCore → Option Bool) (c : PCore) : Option Bool :=
 itr (s_l5Nodes_L1 s_l5Nodes c) LF 0
def s_l5Nodes : Nat → PCore → Option Bool
 | 0, _ => none
 | n + 1, c => s_l5Nodes_b (s_l5Nodes n) c
def s_l5Unique_L1b (list : List Int) (go3 : Int → Option Bool) (x2 : Int) : Option Bool :=
 if x2 < (list.length : Int) then
  bnd (nth list x2) fun x4 =>
  bnd (s_l1In x4 0 99999) fun x5 =>
  if x5 = true then
   chk (0 ≤ x2 ∧ x2 ≤ list.length) <|
   bnd (s_HasScope (list.take x2.toNat) x4) fun x6 =>
   if x6 = true then
    some false
   else
    chk (I64 (x2 + 1)) <|
    go3 (x2 + 1)
  else
   some false
 else
  some true
def s_l5Unique_L1 (list : List Int) (go : Int → Option Bool) (v : Int) : Option Bool :=
 match v with
 | x2 => s_l5Unique_L1b list go x2
def s_l5Unique (list : List Int) : Option Bool :=
 itr (s_l5Unique_L1 list) LF 0
def s_l5Bound_L1b (s_l5Bound : PCore → List Int → Option (List Int)) (c : PCore) (go6 : (Int × List Int) → Option (List Int)) (x4 : Int) (out5 : List Int) : Option (List Int) :=
 if x4 < (c.kids.length : Int) then
  bnd (nth c.kids x4) fun x7 =>
  bnd (s_l5Bound x7 out5) fun x8 =>
  chk (I64 (x4 + 1)) <|
  go6 ((x4 + 1), x8)
 else
  some out5
def s_l5Bound_L1 (s_l5Bound : PCore → List Int → Option (List Int)) (c : PCore) (go : (Int × List Int) → Option (List Int)) (v : Int × List Int) : Option (List Int) :=
 match v with
 | (x4, out5) => s_l5Bound_L1b s_l5Bound c go x4 out5
def s_l5Bound_b (s_l5Bound : PCore → List Int → Option (List Int)) (c : PCore) (out : List Int) : Option (List Int) :=
 chk ((out.length + c.params.length) * 8 ≤ 140737488355328) <|
 itr (s_l5Bound_L1 s_l5Bound c) LF (0, (out ++ c.params))
def s_l5Bound : Nat → PCore → List Int → Option (List Int)
 | 0, _, _ => none
 | n + 1, c, out => s_l5Bound_b (s_l5Bound n) c out
def s_IsCore_L1b (globals : List Int) (x9 : List Int) (go11 : Int → Option Bool) (x10 : Int) : Option Bool :=
 if x10 < (x9.length : Int) then
  bnd (nth x9 x10) fun x12 =>
  bnd (s_HasScope globals x12) fun x13 =>
  if x13 = true then
   chk (I64 (x10 + 1)) <|
   go11 (x10 + 1)
  else
   some false
 else
  some true
def s_IsCore_L1 (globals : List Int) (x9 : List Int) (go : Int → Option Bool) (v : Int) : Option Bool :=
 match v with
 | x10 => s_IsCore_L1b globals x9 go x10
def s_IsCore (c : PCore) (globals : List Int) : Option Bool :=
 bnd (s_l5Small c) fun x3 =>
 if x3 = true then
  bnd (s_DepthOfCore RF c) fun x4 =>
  if x4 > 150 then
   some false
  else
   bnd (s_l5Nodes RF c) fun x5 =>
   if x5 = true then
    bnd (s_l2Ints globals) fun x6 =>
    bnd (s_l5Bound RF c []) fun x7 =>
    chk ((x6.length + x7.length) * 8 ≤ 140737488355328) <|
    bnd (s_l5Unique (x6 ++ x7)) fun x8 =>
    if x8 = true then
     bnd (s_FreeVariables c) fun x9 =>
     itr (s_IsCore_L1 globals x9) LF 0
    else
     some false
   else
    some false
 else
  some false
def s_l5Valid (c : PCore) : Option Bool :=
 bnd (s_l5Small c) fun x2 =>
 if x2 = true then
  bnd (s_FreeVariables c) fun x3 =>
  bnd (s_IsCore c x3) fun x4 =>
  some x4
 else
  some false
def s_l9Atom (c : PCore) : Option Bool :=
 if c.kind = 1 then
  some (decide ((c.datum.items.length : Int) = 0))
 else
  some false
def s_l8Quote_L1b (s_l8Quote : PDat → List PPair → Option (PVal × List PPair)) (d : PDat) (go7 : (Int × List PPair × PVal) → Option (PVal × List PPair)) (i4 : Int) (pairs5 : List PPair) (tail6 : PVal) : Option (PVal × List PPair) :=
 if i4 ≥ 0 then
  bnd (nth d.items i4) fun x8 =>
  bnd (s_l8Quote x8 pairs5) fun x9 =>
  chk ((x9.2.length + ([(PPair.mk x9.1 tail6)] : List PPair).length) * 64 ≤ 140737488355328) <|
  chk (I64 (((x9.2 ++ ([(PPair.mk x9.1 tail6)] : List PPair)).length : Int) - 1)) <|
  chk (I64 (i4 - 1)) <|
  go7 ((i4 - 1), (x9.2 ++ ([(PPair.mk x9.1 tail6)] : List PPair)), (PVal.mk 7 (((x9.2 ++ ([(PPair.mk x9.1 tail6)] : List PPair)).length : Int) - 1) ([] : List UInt8)))
 else
  some (tail6, pairs5)
def s_l8Quote_L1 (s_l8Quote : PDat → List PPair → Option (PVal × List PPair)) (d : PDat) (go : (Int × List PPair × PVal) → Option (PVal × List PPair)) (v : Int × List PPair × PVal) : Option (PVal × List PPair) :=
 match v with
 | (i4, pairs5, tail6) => s_l8Quote_L1b s_l8Quote d go i4 pairs5 tail6
def s_l8Quote_b (s_l8Quote : PDat → List PPair → Option (PVal × List PPair)) (d : PDat) (pairs : List PPair) : Option (PVal × List PPair) :=
 if d.kind = 1 then
  some ((PVal.mk 4 0 d.text), pairs)
 else
  if d.kind = 2 then
   some ((PVal.mk 3 d.number ([] : List UInt8)), pairs)
  else
   if d.kind = 3 then
    some ((PVal.mk 2 d.number ([] : List UInt8)), pairs)
   else
    if d.kind = 4 then
     some ((PVal.mk 5 0 d.text), pairs)
    else
     chk (I64 ((d.items.length : Int) - 1)) <|
     itr (s_l8Quote_L1 s_l8Quote d) LF (((d.items.length : Int) - 1), pairs, (PVal.mk 1 0 ([] : List UInt8)))
def s_l8Quote : Nat → PDat → List PPair → Option (PVal × List PPair)
 | 0, _, _ => none
 | n + 1, d, pairs => s_l8Quote_b (s_l8Quote n) d pairs
def s_ArityOf (primitive : Int) : Option Int :=
 bnd (s_PrimitiveNames) fun x2 =>
 chk (I64 ((x2.length : Int) - 1)) <|
 bnd (s_l1In primitive 0 ((x2.length : Int) - 1)) fun x3 =>
 if x3 = true then
  bnd (nth ([2, 2, 2, 2, 2, 2, 1, 1, 1, 1, 1, 2, 1, 1] : List Int) primitive) fun x4 =>
  some x4
 else
  some (-1)
def s_l8False (x_1 : PVal) : Option Bool :=
 if x_1.kind = 2 then
  some (decide (x_1.number = 0))
 else
  some false
def s_l8Bool (b : Bool) : Option PVal :=
 if b = true then
  some (PVal.mk 2 1 ([] : List UInt8))
 else
  some (PVal.mk 2 0 ([] : List UInt8))
def s_l8Numbers (p : Int) (a : Int) (b : Int) : Option (PVal × List UInt8) :=
 if p = 0 then
  chk (I64 (a + b)) <|
  bnd (s_l1In (a + b) (-999999999) 999999999) fun x4 =>
  if x4 = true then
   some ((PVal.mk 3 (a + b) ([] : List UInt8)), ([] : List UInt8))
  else
   some ((PVal.mk 0 0 ([] : List UInt8)), ([110, 117, 109, 98, 101, 114, 32, 116, 111, 111, 32, 108, 97, 114, 103, 101] : List UInt8))
 else
  if p = 1 then
   chk (I64 (a - b)) <|
   bnd (s_l1In (a - b) (-999999999) 999999999) fun x4 =>
   if x4 = true then
    some ((PVal.mk 3 (a - b) ([] : List UInt8)), ([] : List UInt8))
   else
    some ((PVal.mk 0 0 ([] : List UInt8)), ([110, 117, 109, 98, 101, 114, 32, 116, 111, 111, 32, 108, 97, 114, 103, 101] : List UInt8))
  else
   if p = 2 then
    chk (I64 (a * b)) <|
    bnd (s_l1In (a * b) (-999999999) 999999999) fun x4 =>
    if x4 = true then
     some ((PVal.mk 3 (a * b) ([] : List UInt8)), ([] : List UInt8))
    else
     some ((PVal.mk 0 0 ([] : List UInt8)), ([110, 117, 109, 98, 101, 114, 32, 116, 111, 111, 32, 108, 97, 114, 103, 101] : List UInt8))
   else
    if p = 3 then
     bnd (s_l8Bool (decide (a = b))) fun x4 =>
     some (x4, ([] : List UInt8))
    else
     bnd (s_l8Bool (decide (a < b))) fun x4 =>
     some (x4, ([] : List UInt8))
def s_l8Apply_J2 (p : Int) (args : List PVal) (pairs : List PPair) (x5 : List UInt8) (x6 : PVal) (x8 : Bool) : Option (PVal × List UInt8) :=
 if x8 = true then
  if x6.kind = 7 then
   if p = 6 then
    bnd (nth pairs x6.number) fun x9 =>
    some (x9.h, ([] : List UInt8))
   else
    bnd (nth pairs x6.number) fun x9 =>
    some (x9.t, ([] : List UInt8))
  else
   some ((PVal.mk 0 0 ([] : List UInt8)), (x5 ++ ([58, 32, 98, 97, 100, 32, 97, 114, 103, 117, 109, 101, 110, 116] : List UInt8)))
 else
  if p = 8 then
   bnd (s_l8Bool (decide (x6.kind = 1))) fun x9 =>
   some (x9, ([] : List UInt8))
  else
   if p = 9 then
    bnd (s_l8Bool (decide (x6.kind = 7))) fun x9 =>
    some (x9, ([] : List UInt8))
   else
    if p = 10 then
     bnd (s_l8Bool (decide (x6.kind = 3))) fun x9 =>
     some (x9, ([] : List UInt8))
    else
     if p = 11 then
      bnd (nth args 1) fun x9 =>
      bnd (s_l8Bool (decide (x6 = x9))) fun x10 =>
      some (x10, ([] : List UInt8))
     else
      bnd (s_l8False x6) fun x9 =>
      bnd (s_l8Bool x9) fun x10 =>
      some (x10, ([] : List UInt8))
def s_l8Apply_J1 (p : Int) (args : List PVal) (pairs : List PPair) (x5 : List UInt8) (x6 : PVal) (x7 : Bool) : Option (PVal × List UInt8) :=
 if x7 = true then
  if x6.kind = 3 then
   bnd (nth args 1) fun x8 =>
   if x8.kind = 3 then
    bnd (nth args 1) fun x9 =>
    bnd (s_l8Numbers p x6.number x9.number) fun x10 =>
    some (x10.1, x10.2)
   else
    some ((PVal.mk 0 0 ([] : List UInt8)), (x5 ++ ([58, 32, 98, 97, 100, 32, 97, 114, 103, 117, 109, 101, 110, 116] : List UInt8)))
  else
   some ((PVal.mk 0 0 ([] : List UInt8)), (x5 ++ ([58, 32, 98, 97, 100, 32, 97, 114, 103, 117, 109, 101, 110, 116] : List UInt8)))
 else
  if p = 6 then
   s_l8Apply_J2 p args pairs x5 x6 true
  else
   s_l8Apply_J2 p args pairs x5 x6 (decide (p = 7))
def s_l8Apply (p : Int) (args : List PVal) (pairs : List PPair) : Option (PVal × List UInt8) :=
 bnd (s_PrimitiveNames) fun x4 =>
 bnd (nth x4 p) fun x5 =>
 chk (x5.length + ([58, 32, 98, 97, 100, 32, 97, 114, 103, 117, 109, 101, 110, 116] : List UInt8).length ≤ 9223372036854775807) <|
 bnd (nth args 0) fun x6 =>
 if p = 0 then
  s_l8Apply_J1 p args pairs x5 x6 true
 else
  if p = 1 then
   s_l8Apply_J1 p args pairs x5 x6 true
  else
   if p = 2 then
    s_l8Apply_J1 p args pairs x5 x6 true
   else
    if p = 3 then
     s_l8Apply_J1 p args pairs x5 x6 true
    else
     s_l8Apply_J1 p args pairs x5 x6 (decide (p = 4))
def s_l9Datum (x_1 : PVal) : Option (PDat × Bool) :=
 if x_1.kind = 1 then
  some ((PDat.mk 0 0 ([] : List UInt8) []), true)
 else
  if x_1.kind = 2 then
   some ((PDat.mk 3 x_1.number ([] : List UInt8) []), true)
  else
   if x_1.kind = 3 then
    some ((PDat.mk 2 x_1.number ([] : List UInt8) []), true)
   else
    some ((PDat.mk 0 0 ([] : List UInt8) []), false)
def s_l9Fold_L1b (c : PCore) (x3 : PCore) (go6 : (Int × List PVal) → Option (PCore × Bool)) (x4 : Int) (args5 : List PVal) : Option (PCore × Bool) :=
 if x4 < ((c.kids.drop (1 : Int).toNat).length : Int) then
  bnd (nth (c.kids.drop (1 : Int).toNat) x4) fun x7 =>
  bnd (s_l9Atom x7) fun x8 =>
  if x8 = true then
   bnd (s_l8Quote RF x7.datum []) fun x9 =>
   chk ((args5.length + ([x9.1] : List PVal).length) * 32 ≤ 140737488355328) <|
   chk (I64 (x4 + 1)) <|
   go6 ((x4 + 1), (args5 ++ ([x9.1] : List PVal)))
  else
   some ((PCore.mk 0 0 [] (PDat.mk 0 0 ([] : List UInt8) []) []), false)
 else
  if x3.number = 5 then
   some ((PCore.mk 0 0 [] (PDat.mk 0 0 ([] : List UInt8) []) []), false)
  else
   if x3.number = 13 then
    some ((PCore.mk 0 0 [] (PDat.mk 0 0 ([] : List UInt8) []) []), false)
   else
    bnd (s_ArityOf x3.number) fun x7 =>
    if (args5.length : Int) = x7 then
     bnd (s_l8Apply x3.number args5 []) fun x8 =>
     bnd (s_l9Datum x8.1) fun x9 =>
     if x8.2 = ([] : List UInt8) then
      if x9.2 = true then
       some ((PCore.mk 1 0 [] x9.1 []), true)
      else
       some ((PCore.mk 0 0 [] (PDat.mk 0 0 ([] : List UInt8) []) []), false)
     else
      some ((PCore.mk 0 0 [] (PDat.mk 0 0 ([] : List UInt8) []) []), false)
    else
     some ((PCore.mk 0 0 [] (PDat.mk 0 0 ([] : List UInt8) []) []), false)
def s_l9Fold_L1 (c : PCore) (x3 : PCore) (go : (Int × List PVal) → Option (PCore × Bool)) (v : Int × List PVal) : Option (PCore × Bool) :=
 match v with
 | (x4, args5) => s_l9Fold_L1b c x3 go x4 args5
def s_l9Fold (c : PCore) : Option (PCore × Bool) :=
 if c.kind = 6 then
  bnd (nth c.kids 0) fun x2 =>
  if x2.kind = 3 then
   bnd (nth c.kids 0) fun x3 =>
   chk (0 ≤ (1 : Int) ∧ (1 : Int) ≤ c.kids.length) <|
   itr (s_l9Fold_L1 c x3) LF (0, ([] : List PVal))
  else
   some ((PCore.mk 0 0 [] (PDat.mk 0 0 ([] : List UInt8) []) []), false)
 else
  some ((PCore.mk 0 0 [] (PDat.mk 0 0 ([] : List UInt8) []) []), false)
def s_l1Copy_L1b (s_l1Copy : PDat → Option PDat) (d : PDat) (go5 : (Int × List PDat) → Option PDat) (x3 : Int) (x4 : List PDat) : Option PDat :=
 if x3 < (d.items.length : Int) then
  bnd (nth d.items x3) fun x6 =>
  bnd (s_l1Copy x6) fun x7 =>
  chk ((x4.length + ([x7] : List PDat).length) * 56 ≤ 140737488355328) <|
  chk (I64 (x3 + 1)) <|
  go5 ((x3 + 1), (x4 ++ ([x7] : List PDat)))
 else
  some (PDat.mk d.kind d.number d.text x4)
def s_l1Copy_L1 (s_l1Copy : PDat → Option PDat) (d : PDat) (go : (Int × List PDat) → Option PDat) (v : Int × List PDat) : Option PDat :=
 match v with
 | (x3, x4) => s_l1Copy_L1b s_l1Copy d go x3 x4
def s_l1Copy_b (s_l1Copy : PDat → Option PDat) (d : PDat) : Option PDat :=
 itr (s_l1Copy_L1 s_l1Copy d) LF (0, [])
def s_l1Copy : Nat → PDat → Option PDat
 | 0, _ => none
 | n + 1, d => s_l1Copy_b (s_l1Copy n) d
def s_l5Copy_L1b (s_l5Copy : PCore → Option PCore) (c : PCore) (x3 : List Int) (x4 : PDat) (go7 : (Int × List PCore) → Option PCore) (x5 : Int) (x6 : List PCore) : Option PCore :=
 if x5 < (c.kids.length : Int) then
  bnd (nth c.kids x5) fun x8 =>
  bnd (s_l5Copy x8) fun x9 =>
  chk ((x6.length + ([x9] : List PCore).length) * 120 ≤ 140737488355328) <|
  chk (I64 (x5 + 1)) <|
  go7 ((x5 + 1), (x6 ++ ([x9] : List PCore)))
 else
  some (PCore.mk c.kind c.number x3 x4 x6)
def s_l5Copy_L1 (s_l5Copy : PCore → Option PCore) (c : PCore) (x3 : List Int) (x4 : PDat) (go : (Int × List PCore) → Option PCore) (v : Int × List PCore) : Option PCore :=
 match v with
 | (x5, x6) => s_l5Copy_L1b s_l5Copy c x3 x4 go x5 x6
def s_l5Copy_b (s_l5Copy : PCore → Option PCore) (c : PCore) : Option PCore :=
 bnd (s_l2Ints c.params) fun x3 =>
 bnd (s_l1Copy RF c.datum) fun x4 =>
 itr (s_l5Copy_L1 s_l5Copy c x3 x4) LF (0, [])
def s_l5Copy : Nat → PCore → Option PCore
 | 0, _ => none
 | n + 1, c => s_l5Copy_b (s_l5Copy n) c
def s_l9Simple (c : PCore) (boxed : List Int) : Option Bool :=
 bnd (s_l9Atom c) fun x3 =>
 if x3 = true then
  some true
 else
  if c.kind = 3 then
   some true
  else
   if c.kind = 2 then
    bnd (s_HasScope boxed c.number) fun x4 =>
    some (!x4)
   else
    some false
def s_l9Substitute_L2b (s_l9Substitute : PCore → Int → PCore → Option PCore) (c : PCore) (x_1 : Int) (x_2 : PCore) (x6 : PCore) (go9 : (Int × List PCore) → Option PCore) (x7 : Int) (x8 : List PCore) : Option PCore :=
 if x7 < (x6.kids.length : Int) then
  bnd (nth c.kids x7) fun x10 =>
  bnd (s_l9Substitute x10 x_1 x_2) fun x11 =>
  bnd (nth x8 x7) fun x12 =>
  chk (I64 (x7 + 1)) <|
  go9 ((x7 + 1), (x8.set x7.toNat x11))
 else
  some (PCore.mk x6.kind x6.number x6.params x6.datum x8)
def s_l9Substitute_L2 (s_l9Substitute : PCore → Int → PCore → Option PCore) (c : PCore) (x_1 : Int) (x_2 : PCore) (x6 : PCore) (go : (Int × List PCore) → Option PCore) (v : Int × List PCore) : Option PCore :=
 match v with
 | (x7, x8) => s_l9Substitute_L2b s_l9Substitute c x_1 x_2 x6 go x7 x8
def s_l9Substitute_J1 (s_l9Substitute : PCore → Int → PCore → Option PCore) (c : PCore) (x_1 : Int) (x_2 : PCore) (x5 : Bool) : Option PCore :=
 if x5 = true then
  bnd (s_l5Copy RF x_2) fun x6 =>
  some x6
 else
  bnd (s_l5Copy RF c) fun x6 =>
  itr (s_l9Substitute_L2 s_l9Substitute c x_1 x_2 x6) LF (0, x6.kids)
def s_l9Substitute_b (s_l9Substitute : PCore → Int → PCore → Option PCore) (c : PCore) (x_1 : Int) (x_2 : PCore) : Option PCore :=
 if c.kind = 2 then
  s_l9Substitute_J1 s_l9Substitute c x_1 x_2 (decide (c.number = x_1))
 else
  s_l9Substitute_J1 s_l9Substitute c x_1 x_2 false
def s_l9Substitute : Nat → PCore → Int → PCore → Option PCore
 | 0, _, _, _ => none
 | n + 1, c, x_1, x_2 => s_l9Substitute_b (s_l9Substitute n) c x_1 x_2
def s_l9Beta_L2b (c : PCore) (x5 : PCore) (go12 : (Int × PCore) → Option (PCore × Bool)) (x10 : Int) (body11 : PCore) : Option (PCore × Bool) :=
 if x10 < (x5.params.length : Int) then
  bnd (nth x5.params x10) fun x13 =>
  chk (I64 (x10 + 1)) <|
  bnd (nth c.kids (x10 + 1)) fun x14 =>
  bnd (s_l9Substitute RF body11 x13 x14) fun x15 =>
  chk (I64 (x10 + 1)) <|
  go12 ((x10 + 1), x15)
 else
  some (body11, true)
def s_l9Beta_L2 (c : PCore) (x5 : PCore) (go : (Int × PCore) → Option (PCore × Bool)) (v : Int × PCore) : Option (PCore × Bool) :=
 match v with
 | (x10, body11) => s_l9Beta_L2b c x5 go x10 body11
def s_l9Beta_L1b (c : PCore) (boxed : List Int) (x5 : PCore) (go7 : Int → Option (PCore × Bool)) (x6 : Int) : Option (PCore × Bool) :=
 if x6 < (x5.params.length : Int) then
  bnd (nth x5.params x6) fun x8 =>
  bnd (s_HasScope boxed x8) fun x9 =>
  if x9 = true then
   some ((PCore.mk 0 0 [] (PDat.mk 0 0 ([] : List UInt8) []) []), false)
  else
   chk (I64 (x6 + 1)) <|
   bnd (nth c.kids (x6 + 1)) fun x10 =>
   bnd (s_l9Simple x10 boxed) fun x11 =>
   if x11 = true then
    chk (I64 (x6 + 1)) <|
    go7 (x6 + 1)
   else
    some ((PCore.mk 0 0 [] (PDat.mk 0 0 ([] : List UInt8) []) []), false)
 else
  bnd (nth x5.kids 0) fun x8 =>
  bnd (s_l5Copy RF x8) fun x9 =>
  itr (s_l9Beta_L2 c x5) LF (0, x9)
def s_l9Beta_L1 (c : PCore) (boxed : List Int) (x5 : PCore) (go : Int → Option (PCore × Bool)) (v : Int) : Option (PCore × Bool) :=
 match v with
 | x6 => s_l9Beta_L1b c boxed x5 go x6
def s_l9Beta (c : PCore) (boxed : List Int) : Option (PCore × Bool) :=
 if c.kind = 6 then
  bnd (nth c.kids 0) fun x3 =>
  if x3.kind = 5 then
   bnd (nth c.kids 0) fun x4 =>
   chk (I64 ((c.kids.length : Int) - 1)) <|
   if (x4.params.length : Int) = ((c.kids.length : Int) - 1) then
    bnd (nth c.kids 0) fun x5 =>
    itr (s_l9Beta_L1 c boxed x5) LF 0
   else
    some ((PCore.mk 0 0 [] (PDat.mk 0 0 ([] : List UInt8) []) []), false)
  else
   some ((PCore.mk 0 0 [] (PDat.mk 0 0 ([] : List UInt8) []) []), false)
 else
  some ((PCore.mk 0 0 [] (PDat.mk 0 0 ([] : List UInt8) []) []), false)
def s_l5Flat_J2 (x2 : Int) (go4 : (Int × List PCore) → Option PCore) (out5 : List PCore) : Option PCore :=
 chk (I64 (x2 + 1)) <|
 go4 ((x2 + 1), out5)
def s_l5Flat_L1b (list : List PCore) (go4 : (Int × List PCore) → Option PCore) (x2 : Int) (out3 : List PCore) : Option PCore :=
 if x2 < (list.length : Int) then
  bnd (nth list x2) fun x5 =>
  if x5.kind = 8 then
   chk ((out3.length + x5.kids.length) * 120 ≤ 140737488355328) <|
   s_l5Flat_J2 x2 go4 (out3 ++ x5.kids)
  else
   chk ((out3.length + ([x5] : List PCore).length) * 120 ≤ 140737488355328) <|
   s_l5Flat_J2 x2 go4 (out3 ++ ([x5] : List PCore))
 else
  if (out3.length : Int) = 1 then
   bnd (nth out3 0) fun x5 =>
   some x5
  else
   some (PCore.mk 8 0 [] (PDat.mk 0 0 ([] : List UInt8) []) out3)
def s_l5Flat_L1 (list : List PCore) (go : (Int × List PCore) → Option PCore) (v : Int × List PCore) : Option PCore :=
 match v with
 | (x2, out3) => s_l5Flat_L1b list go x2 out3
def s_l5Flat (list : List PCore) : Option PCore :=
 itr (s_l5Flat_L1 list) LF (0, ([] : List PCore))
def s_l9Drop_J2 (x2 : Int) (go4 : (Int × List PCore) → Option (PCore × Bool)) (kids5 : List PCore) : Option (PCore × Bool) :=
 chk (I64 (x2 + 1)) <|
 go4 ((x2 + 1), kids5)
def s_l9Drop_J3 (x2 : Int) (kids3 : List PCore) (go4 : (Int × List PCore) → Option (PCore × Bool)) (x5 : PCore) (x6 : Bool) : Option (PCore × Bool) :=
 if x6 = true then
  bnd (s_l5Copy RF x5) fun x7 =>
  chk ((kids3.length + ([x7] : List PCore).length) * 120 ≤ 140737488355328) <|
  s_l9Drop_J2 x2 go4 (kids3 ++ ([x7] : List PCore))
 else
  s_l9Drop_J2 x2 go4 kids3
def s_l9Drop_L1b (c : PCore) (go4 : (Int × List PCore) → Option (PCore × Bool)) (x2 : Int) (kids3 : List PCore) : Option (PCore × Bool) :=
 if x2 < (c.kids.length : Int) then
  bnd (nth c.kids x2) fun x5 =>
  chk (I64 ((c.kids.length : Int) - 1)) <|
  if x2 = ((c.kids.length : Int) - 1) then
   s_l9Drop_J3 x2 kids3 go4 x5 true
  else
   if x5.kind = 1 then
    s_l9Drop_J3 x2 kids3 go4 x5 false
   else
    if x5.kind = 3 then
     s_l9Drop_J3 x2 kids3 go4 x5 false
    else
     s_l9Drop_J3 x2 kids3 go4 x5 (!decide (x5.kind = 5))
 else
  bnd (s_l5Flat kids3) fun x5 =>
  some (x5, (decide ((kids3.length : Int) < (c.kids.length : Int))))
def s_l9Drop_L1 (c : PCore) (go : (Int × List PCore) → Option (PCore × Bool)) (v : Int × List PCore) : Option (PCore × Bool) :=
 match v with
 | (x2, kids3) => s_l9Drop_L1b c go x2 kids3
def s_l9Drop (c : PCore) : Option (PCore × Bool) :=
 if c.kind = 8 then
  itr (s_l9Drop_L1 c) LF (0, ([] : List PCore))
 else
  some ((PCore.mk 0 0 [] (PDat.mk 0 0 ([] : List UInt8) []) []), false)
def s_l9Node_J1 (c : PCore) (x5 : Bool) : Option (PCore × Bool) :=
 if x5 = true then
  bnd (nth c.kids 0) fun x6 =>
  bnd (s_l8Quote RF x6.datum []) fun x7 =>
  bnd (s_l8False x7.1) fun x8 =>
  if x8 = true then
   bnd (nth c.kids 2) fun x9 =>
   bnd (s_l5Copy RF x9) fun x10 =>
   some (x10, true)
  else
   bnd (nth c.kids 1) fun x9 =>
   bnd (s_l5Copy RF x9) fun x10 =>
   some (x10, true)
 else
  bnd (s_l9Drop c) fun x6 =>
  some (x6.1, x6.2)
def s_l9Node (c : PCore) (boxed : List Int) : Option (PCore × Bool) :=
 bnd (s_l9Fold c) fun x3 =>
 if x3.2 = true then
  some (x3.1, true)
 else
  bnd (s_l9Beta c boxed) fun x4 =>
  if x4.2 = true then
   some (x4.1, true)
  else
   if c.kind = 7 then
    bnd (nth c.kids 0) fun x5 =>
    bnd (s_l9Atom x5) fun x6 =>
    s_l9Node_J1 c x6
   else
    s_l9Node_J1 c false
def s_SimplifyNode (c : PCore) (boxed : List Int) : Option (PCore × Bool) :=
 bnd (s_l5Valid c) fun x3 =>
 if x3 = true then
  bnd (s_l9Node c boxed) fun x4 =>
  if x4.2 = true then
   some (x4.1, true)
  else
   some ((PCore.mk 0 0 [] (PDat.mk 0 0 ([] : List UInt8) []) []), false)
 else
  some ((PCore.mk 0 0 [] (PDat.mk 0 0 ([] : List UInt8) []) []), false)
end Go.Abs

namespace Go.Abs
set_option linter.unusedVariables false
def w_szIntS (a : List Int) (left : Int) : Option Int :=
 chk (I64 (left - (a.length : Int))) <|
 if (left - (a.length : Int)) < 0 then
  some (-1)
 else
  some (left - (a.length : Int))
def w_szDatum_b (w_szDatum : PDat → Int → Option Int) (w_szDatumS : List PDat → Int → Option Int) (a : PDat) (left : Int) : Option Int :=
 chk (I64 (left - (a.text.length : Int))) <|
 if (left - (a.text.length : Int)) < 0 then
  some (-1)
 else
  bnd (w_szDatumS a.items (left - (a.text.length : Int))) fun x5 =>
  if x5 < 0 then
   some (-1)
  else
   some x5
def w_szDatumS_L1b (w_szDatum : PDat → Int → Option Int) (a : List PDat) (go7 : (Int × Int) → Option Int) (left5 : Int) (i6 : Int) : Option Int :=
 if i6 < (a.length : Int) then
  bnd (nth a i6) fun x8 =>
  bnd (w_szDatum x8 left5) fun x9 =>
  if x9 < 0 then
   some (-1)
  else
   chk (I64 (i6 + 1)) <|
   go7 (x9, (i6 + 1))
 else
  some left5
def w_szDatumS_L1 (w_szDatum : PDat → Int → Option Int) (a : List PDat) (go : (Int × Int) → Option Int) (v : Int × Int) : Option Int :=
 match v with
 | (left5, i6) => w_szDatumS_L1b w_szDatum a go left5 i6
def w_szDatumS_b (w_szDatum : PDat → Int → Option Int) (w_szDatumS : List PDat → Int → Option Int) (a : List PDat) (left : Int) : Option Int :=
 chk (I64 (left - (a.length : Int))) <|
 if (left - (a.length : Int)) < 0 then
  some (-1)
 else
  itr (w_szDatumS_L1 w_szDatum a) LF ((left - (a.length : Int)), 0)
mutual
def w_szDatum : Nat → PDat → Int → Option Int
 | 0, _, _ => none
 | n + 1, a, left => w_szDatum_b (w_szDatum n) (w_szDatumS n) a left
def w_szDatumS : Nat → List PDat → Int → Option Int
 | 0, _, _ => none
 | n + 1, a, left => w_szDatumS_b (w_szDatum n) (w_szDatumS n) a left
end
def w_szCore_b (w_szCore : PCore → Int → Option Int) (w_szCoreS : List PCore → Int → Option Int) (a : PCore) (left : Int) : Option Int :=
 bnd (w_szIntS a.params left) fun x5 =>
 if x5 < 0 then
  some (-1)
 else
  bnd (w_szDatum RF a.datum x5) fun x6 =>
  if x6 < 0 then
   some (-1)
  else
   bnd (w_szCoreS a.kids x6) fun x7 =>
   if x7 < 0 then
    some (-1)
   else
    some x7
def w_szCoreS_L1b (w_szCore : PCore → Int → Option Int) (a : List PCore) (go7 : (Int × Int) → Option Int) (left5 : Int) (i6 : Int) : Option Int :=
 if i6 < (a.length : Int) then
  bnd (nth a i6) fun x8 =>
  bnd (w_szCore x8 left5) fun x9 =>
  if x9 < 0 then
   some (-1)
  else
   chk (I64 (i6 + 1)) <|
   go7 (x9, (i6 + 1))
 else
  some left5
def w_szCoreS_L1 (w_szCore : PCore → Int → Option Int) (a : List PCore) (go : (Int × Int) → Option Int) (v : Int × Int) : Option Int :=
 match v with
 | (left5, i6) => w_szCoreS_L1b w_szCore a go left5 i6
def w_szCoreS_b (w_szCore : PCore → Int → Option Int) (w_szCoreS : List PCore → Int → Option Int) (a : List PCore) (left : Int) : Option Int :=
 chk (I64 (left - (a.length : Int))) <|
 if (left - (a.length : Int)) < 0 then
  some (-1)
 else
  itr (w_szCoreS_L1 w_szCore a) LF ((left - (a.length : Int)), 0)
mutual
def w_szCore : Nat → PCore → Int → Option Int
 | 0, _, _ => none
 | n + 1, a, left => w_szCore_b (w_szCore n) (w_szCoreS n) a left
def w_szCoreS : Nat → List PCore → Int → Option Int
 | 0, _, _ => none
 | n + 1, a, left => w_szCoreS_b (w_szCore n) (w_szCoreS n) a left
end
def w_toIntS_L1b (a : List Int) (go4 : (Int × List Int) → Option (List Int)) (i2 : Int) (out3 : List Int) : Option (List Int) :=
 if i2 < (a.length : Int) then
  bnd (nth a i2) fun x5 =>
  bnd (nth out3 i2) fun x6 =>
  chk (I64 (i2 + 1)) <|
  go4 ((i2 + 1), (out3.set i2.toNat x5))
 else
  some out3
def w_toIntS_L1 (a : List Int) (go : (Int × List Int) → Option (List Int)) (v : Int × List Int) : Option (List Int) :=
 match v with
 | (i2, out3) => w_toIntS_L1b a go i2 out3
def w_toIntS (a : List Int) : Option (List Int) :=
 chk (0 ≤ (a.length : Int) ∧ (8 : Nat) * (a.length : Int) ≤ 281474976710656 ∧ (a.length : Int) ≤ 281474976710656) <|
 itr (w_toIntS_L1 a) LF (0, (List.replicate (a.length : Int).toNat (0 : Int)))
def w_toDatum_b (w_toDatum : PDat → Option PDat) (w_toDatumS : List PDat → Option (List PDat)) (a : PDat) : Option PDat :=
 bnd (w_toDatumS a.items) fun x4 =>
 some (PDat.mk a.kind a.number a.text x4)
def w_toDatumS_L1b (w_toDatum : PDat → Option PDat) (a : List PDat) (go6 : (Int × List PDat) → Option (List PDat)) (i4 : Int) (out5 : List PDat) : Option (List PDat) :=
 if i4 < (a.length : Int) then
  bnd (nth a i4) fun x7 =>
  bnd (w_toDatum x7) fun x8 =>
  bnd (nth out5 i4) fun x9 =>
  chk (I64 (i4 + 1)) <|
  go6 ((i4 + 1), (out5.set i4.toNat x8))
 else
  some out5
def w_toDatumS_L1 (w_toDatum : PDat → Option PDat) (a : List PDat) (go : (Int × List PDat) → Option (List PDat)) (v : Int × List PDat) : Option (List PDat) :=
 match v with
 | (i4, out5) => w_toDatumS_L1b w_toDatum a go i4 out5
def w_toDatumS_b (w_toDatum : PDat → Option PDat) (w_toDatumS : List PDat → Option (List PDat)) (a : List PDat) : Option (List PDat) :=
 chk (0 ≤ (a.length : Int) ∧ (56 : Nat) * (a.length : Int) ≤ 281474976710656 ∧ (a.length : Int) ≤ 281474976710656) <|
 itr (w_toDatumS_L1 w_toDatum a) LF (0, (List.replicate (a.length : Int).toNat ((PDat.mk 0 0 ([] : List UInt8) []) : PDat)))
mutual
def w_toDatum : Nat → PDat → Option PDat
 | 0, _ => none
 | n + 1, a => w_toDatum_b (w_toDatum n) (w_toDatumS n) a
def w_toDatumS : Nat → List PDat → Option (List PDat)
 | 0, _ => none
 | n + 1, a => w_toDatumS_b (w_toDatum n) (w_toDatumS n) a
end
def w_toCore_b (w_toCore : PCore → Option PCore) (w_toCoreS : List PCore → Option (List PCore)) (a : PCore) : Option PCore :=
 bnd (w_toIntS a.params) fun x4 =>
 bnd (w_toDatum RF a.datum) fun x5 =>
 bnd (w_toCoreS a.kids) fun x6 =>
 some (PCore.mk a.kind a.number x4 x5 x6)
def w_toCoreS_L1b (w_toCore : PCore → Option PCore) (a : List PCore) (go6 : (Int × List PCore) → Option (List PCore)) (i4 : Int) (out5 : List PCore) : Option (List PCore) :=
 if i4 < (a.length : Int) then
  bnd (nth a i4) fun x7 =>
  bnd (w_toCore x7) fun x8 =>
  bnd (nth out5 i4) fun x9 =>
  chk (I64 (i4 + 1)) <|
  go6 ((i4 + 1), (out5.set i4.toNat x8))
 else
  some out5
def w_toCoreS_L1 (w_toCore : PCore → Option PCore) (a : List PCore) (go : (Int × List PCore) → Option (List PCore)) (v : Int × List PCore) : Option (List PCore) :=
 match v with
 | (i4, out5) => w_toCoreS_L1b w_toCore a go i4 out5
def w_toCoreS_b (w_toCore : PCore → Option PCore) (w_toCoreS : List PCore → Option (List PCore)) (a : List PCore) : Option (List PCore) :=
 chk (0 ≤ (a.length : Int) ∧ (120 : Nat) * (a.length : Int) ≤ 281474976710656 ∧ (a.length : Int) ≤ 281474976710656) <|
 itr (w_toCoreS_L1 w_toCore a) LF (0, (List.replicate (a.length : Int).toNat ((PCore.mk 0 0 [] (PDat.mk 0 0 ([] : List UInt8) []) []) : PCore)))
mutual
def w_toCore : Nat → PCore → Option PCore
 | 0, _ => none
 | n + 1, a => w_toCore_b (w_toCore n) (w_toCoreS n) a
def w_toCoreS : Nat → List PCore → Option (List PCore)
 | 0, _ => none
 | n + 1, a => w_toCoreS_b (w_toCore n) (w_toCoreS n) a
end
def w_eqIntS_L1b (a : List Int) (b : List Int) (go4 : Int → Option Bool) (i3 : Int) : Option Bool :=
 if i3 < (a.length : Int) then
  bnd (nth a i3) fun x5 =>
  bnd (nth b i3) fun x6 =>
  if x5 = x6 then
   chk (I64 (i3 + 1)) <|
   go4 (i3 + 1)
  else
   some false
 else
  some true
def w_eqIntS_L1 (a : List Int) (b : List Int) (go : Int → Option Bool) (v : Int) : Option Bool :=
 match v with
 | i3 => w_eqIntS_L1b a b go i3
def w_eqIntS (a : List Int) (b : List Int) : Option Bool :=
 if (a.length : Int) = (b.length : Int) then
  itr (w_eqIntS_L1 a b) LF 0
 else
  some false
def w_eqDatum_b (w_eqDatum : PDat → PDat → Option Bool) (w_eqDatumS : List PDat → List PDat → Option Bool) (a : PDat) (b : PDat) : Option Bool :=
 if a.kind = b.kind then
  if a.number = b.number then
   if a.text = b.text then
    bnd (w_eqDatumS a.items b.items) fun x5 =>
    if x5 = true then
     some true
    else
     some false
   else
    some false
  else
   some false
 else
  some false
def w_eqDatumS_L1b (w_eqDatum : PDat → PDat → Option Bool) (a : List PDat) (b : List PDat) (go6 : Int → Option Bool) (i5 : Int) : Option Bool :=
 if i5 < (a.length : Int) then
  bnd (nth a i5) fun x7 =>
  bnd (nth b i5) fun x8 =>
  bnd (w_eqDatum x7 x8) fun x9 =>
  if x9 = true then
   chk (I64 (i5 + 1)) <|
   go6 (i5 + 1)
  else
   some false
 else
  some true
def w_eqDatumS_L1 (w_eqDatum : PDat → PDat → Option Bool) (a : List PDat) (b : List PDat) (go : Int → Option Bool) (v : Int) : Option Bool :=
 match v with
 | i5 => w_eqDatumS_L1b w_eqDatum a b go i5
def w_eqDatumS_b (w_eqDatum : PDat → PDat → Option Bool) (w_eqDatumS : List PDat → List PDat → Option Bool) (a : List PDat) (b : List PDat) : Option Bool :=
 if (a.length : Int) = (b.length : Int) then
  itr (w_eqDatumS_L1 w_eqDatum a b) LF 0
 else
  some false
mutual
def w_eqDatum : Nat → PDat → PDat → Option Bool
 | 0, _, _ => none
 | n + 1, a, b => w_eqDatum_b (w_eqDatum n) (w_eqDatumS n) a b
def w_eqDatumS : Nat → List PDat → List PDat → Option Bool
 | 0, _, _ => none
 | n + 1, a, b => w_eqDatumS_b (w_eqDatum n) (w_eqDatumS n) a b
end
def w_eqCore_b (w_eqCore : PCore → PCore → Option Bool) (w_eqCoreS : List PCore → List PCore → Option Bool) (a : PCore) (b : PCore) : Option Bool :=
 if a.kind = b.kind then
  if a.number = b.number then
   bnd (w_eqIntS a.params b.params) fun x5 =>
   if x5 = true then
    bnd (w_eqDatum RF a.datum b.datum) fun x6 =>
    if x6 = true then
     bnd (w_eqCoreS a.kids b.kids) fun x7 =>
     if x7 = true then
      some true
     else
      some false
    else
     some false
   else
    some false
  else
   some false
 else
  some false
def w_eqCoreS_L1b (w_eqCore : PCore → PCore → Option Bool) (a : List PCore) (b : List PCore) (go6 : Int → Option Bool) (i5 : Int) : Option Bool :=
 if i5 < (a.length : Int) then
  bnd (nth a i5) fun x7 =>
  bnd (nth b i5) fun x8 =>
  bnd (w_eqCore x7 x8) fun x9 =>
  if x9 = true then
   chk (I64 (i5 + 1)) <|
   go6 (i5 + 1)
  else
   some false
 else
  some true
def w_eqCoreS_L1 (w_eqCore : PCore → PCore → Option Bool) (a : List PCore) (b : List PCore) (go : Int → Option Bool) (v : Int) : Option Bool :=
 match v with
 | i5 => w_eqCoreS_L1b w_eqCore a b go i5
def w_eqCoreS_b (w_eqCore : PCore → PCore → Option Bool) (w_eqCoreS : List PCore → List PCore → Option Bool) (a : List PCore) (b : List PCore) : Option Bool :=
 if (a.length : Int) = (b.length : Int) then
  itr (w_eqCoreS_L1 w_eqCore a b) LF 0
 else
  some false
mutual
def w_eqCore : Nat → PCore → PCore → Option Bool
 | 0, _, _ => none
 | n + 1, a, b => w_eqCore_b (w_eqCore n) (w_eqCoreS n) a b
def w_eqCoreS : Nat → List PCore → List PCore → Option Bool
 | 0, _, _ => none
 | n + 1, a, b => w_eqCoreS_b (w_eqCore n) (w_eqCoreS n) a b
end
def w_markIntS_L1b (go6 : (Int × Int × List Int) → Option (Int × List Int)) (k3 : Int) (i4 : Int) (a5 : List Int) : Option (Int × List Int) :=
 if i4 < (a5.length : Int) then
  bnd (nth a5 i4) fun x7 =>
  chk (I64 (k3 + 1)) <|
  chk (I64 (i4 + 1)) <|
  go6 ((k3 + 1), (i4 + 1), (a5.set i4.toNat k3))
 else
  some (k3, a5)
def w_markIntS_L1 (go : (Int × Int × List Int) → Option (Int × List Int)) (v : Int × Int × List Int) : Option (Int × List Int) :=
 match v with
 | (k3, i4, a5) => w_markIntS_L1b go k3 i4 a5
def w_markIntS (a : List Int) (k : Int) : Option (Int × List Int) :=
 itr w_markIntS_L1 LF (k, 0, a)
def w_markText_L1b (go4 : (Int × List UInt8) → Option (List UInt8)) (k2 : Int) (out3 : List UInt8) : Option (List UInt8) :=
 if k2 > 0 then
  chk (0 ≤ k2 ∧ k2 ≤ 9223372036854775807 ∧ (0 : Int) < 10) <|
  chk (I64 (48 + (k2 % 10))) <|
  chk (0 ≤ (48 + (k2 % 10)) ∧ (48 + (k2 % 10)) ≤ 255) <|
  chk (([(UInt8.ofNat (48 + (k2 % 10)).toNat)] : List UInt8).length + out3.length ≤ 9223372036854775807) <|
  chk (0 ≤ k2 ∧ k2 ≤ 9223372036854775807 ∧ (0 : Int) < 10) <|
  go4 ((k2 / 10), (([(UInt8.ofNat (48 + (k2 % 10)).toNat)] : List UInt8) ++ out3))
 else
  chk (([109] : List UInt8).length + out3.length ≤ 9223372036854775807) <|
  some (([109] : List UInt8) ++ out3)
def w_markText_L1 (go : (Int × List UInt8) → Option (List UInt8)) (v : Int × List UInt8) : Option (List UInt8) :=
 match v with
 | (k2, out3) => w_markText_L1b go k2 out3
def w_markText (k : Int) : Option (List UInt8) :=
 if k ≤ 0 then
  some ([109, 48] : List UInt8)
 else
  itr w_markText_L1 LF (k, ([] : List UInt8))
def w_markDatumS_L1b (w_markDatumS : List PDat → Int → Option (Int × List PDat)) (go7 : (Int × Int × List PDat) → Option (Int × List PDat)) (k4 : Int) (i5 : Int) (a6 : List PDat) : Option (Int × List PDat) :=
 if i5 < (a6.length : Int) then
  bnd (nth a6 i5) fun x8 =>
  chk (I64 (k4 + 1)) <|
  bnd (nth (a6.set i5.toNat (PDat.mk k4 x8.number x8.text x8.items)) i5) fun x9 =>
  chk (I64 ((k4 + 1) + 1)) <|
  bnd (w_markText ((k4 + 1) + 1)) fun x10 =>
  bnd (nth ((a6.set i5.toNat (PDat.mk k4 x8.number x8.text x8.items)).set i5.toNat (PDat.mk x9.kind (k4 + 1) x9.text x9.items)) i5) fun x11 =>
  chk (I64 (((k4 + 1) + 1) + 1)) <|
  bnd (nth (((a6.set i5.toNat (PDat.mk k4 x8.number x8.text x8.items)).set i5.toNat (PDat.mk x9.kind (k4 + 1) x9.text x9.items)).set i5.toNat (PDat.mk x11.kind x11.number x10 x11.items)) i5) fun x12 =>
  bnd (w_markDatumS x12.items (((k4 + 1) + 1) + 1)) fun x13 =>
  chk (x13.2.length = x12.items.length) <|
  chk (I64 (i5 + 1)) <|
  go7 (x13.1, (i5 + 1), ((((a6.set i5.toNat (PDat.mk k4 x8.number x8.text x8.items)).set i5.toNat (PDat.mk x9.kind (k4 + 1) x9.text x9.items)).set i5.toNat (PDat.mk x11.kind x11.number x10 x11.items)).set i5.toNat (PDat.mk x12.kind x12.number x12.text x13.2)))
 else
  some (k4, a6)
def w_markDatumS_L1 (w_markDatumS : List PDat → Int → Option (Int × List PDat)) (go : (Int × Int × List PDat) → Option (Int × List PDat)) (v : Int × Int × List PDat) : Option (Int × List PDat) :=
 match v with
 | (k4, i5, a6) => w_markDatumS_L1b w_markDatumS go k4 i5 a6
def w_markDatumS_b (w_markDatumS : List PDat → Int → Option (Int × List PDat)) (a : List PDat) (k : Int) : Option (Int × List PDat) :=
 itr (w_markDatumS_L1 w_markDatumS) LF (k, 0, a)
def w_markDatumS : Nat → List PDat → Int → Option (Int × List PDat)
 | 0, _, _ => none
 | n + 1, a, k => w_markDatumS_b (w_markDatumS n) a k
def w_markDatum (a : PDat) (k : Int) : Option (Int × List PDat) :=
 bnd (w_markDatumS RF a.items k) fun x3 =>
 chk (x3.2.length = a.items.length) <|
 some (x3.1, x3.2)
def w_markCoreS_L1b (w_markCoreS : List PCore → Int → Option (Int × List PCore)) (go7 : (Int × Int × List PCore) → Option (Int × List PCore)) (k4 : Int) (i5 : Int) (a6 : List PCore) : Option (Int × List PCore) :=
 if i5 < (a6.length : Int) then
  bnd (nth a6 i5) fun x8 =>
  chk (I64 (k4 + 1)) <|
  bnd (nth (a6.set i5.toNat (PCore.mk k4 x8.number x8.params x8.datum x8.kids)) i5) fun x9 =>
  chk (I64 ((k4 + 1) + 1)) <|
  bnd (nth ((a6.set i5.toNat (PCore.mk k4 x8.number x8.params x8.datum x8.kids)).set i5.toNat (PCore.mk x9.kind (k4 + 1) x9.params x9.datum x9.kids)) i5) fun x10 =>
  bnd (w_markIntS x10.params ((k4 + 1) + 1)) fun x11 =>
  chk (x11.2.length = x10.params.length) <|
  bnd (nth (((a6.set i5.toNat (PCore.mk k4 x8.number x8.params x8.datum x8.kids)).set i5.toNat (PCore.mk x9.kind (k4 + 1) x9.params x9.datum x9.kids)).set i5.toNat (PCore.mk x10.kind x10.number x11.2 x10.datum x10.kids)) i5) fun x12 =>
  chk (I64 (x11.1 + 1)) <|
  bnd (nth ((((a6.set i5.toNat (PCore.mk k4 x8.number x8.params x8.datum x8.kids)).set i5.toNat (PCore.mk x9.kind (k4 + 1) x9.params x9.datum x9.kids)).set i5.toNat (PCore.mk x10.kind x10.number x11.2 x10.datum x10.kids)).set i5.toNat (PCore.mk x12.kind x12.number x12.params (PDat.mk x11.1 x12.datum.number x12.datum.text x12.datum.items) x12.kids)) i5) fun x13 =>
  chk (I64 ((x11.1 + 1) + 1)) <|
  bnd (w_markText ((x11.1 + 1) + 1)) fun x14 =>
  bnd (nth (((((a6.set i5.toNat (PCore.mk k4 x8.number x8.params x8.datum x8.kids)).set i5.toNat (PCore.mk x9.kind (k4 + 1) x9.params x9.datum x9.kids)).set i5.toNat (PCore.mk x10.kind x10.number x11.2 x10.datum x10.kids)).set i5.toNat (PCore.mk x12.kind x12.number x12.params (PDat.mk x11.1 x12.datum.number x12.datum.text x12.datum.items) x12.kids)).set i5.toNat (PCore.mk x13.kind x13.number x13.params (PDat.mk x13.datum.kind (x11.1 + 1) x13.datum.text x13.datum.items) x13.kids)) i5) fun x15 =>
  chk (I64 (((x11.1 + 1) + 1) + 1)) <|
  bnd (nth ((((((a6.set i5.toNat (PCore.mk k4 x8.number x8.params x8.datum x8.kids)).set i5.toNat (PCore.mk x9.kind (k4 + 1) x9.params x9.datum x9.kids)).set i5.toNat (PCore.mk x10.kind x10.number x11.2 x10.datum x10.kids)).set i5.toNat (PCore.mk x12.kind x12.number x12.params (PDat.mk x11.1 x12.datum.number x12.datum.text x12.datum.items) x12.kids)).set i5.toNat (PCore.mk x13.kind x13.number x13.params (PDat.mk x13.datum.kind (x11.1 + 1) x13.datum.text x13.datum.items) x13.kids)).set i5.toNat (PCore.mk x15.kind x15.number x15.params (PDat.mk x15.datum.kind x15.datum.number x14 x15.datum.items) x15.kids)) i5) fun x16 =>
  bnd (w_markDatumS RF x16.datum.items (((x11.1 + 1) + 1) + 1)) fun x17 =>
  chk (x17.2.length = x16.datum.items.length) <|
  bnd (nth (((((((a6.set i5.toNat (PCore.mk k4 x8.number x8.params x8.datum x8.kids)).set i5.toNat (PCore.mk x9.kind (k4 + 1) x9.params x9.datum x9.kids)).set i5.toNat (PCore.mk x10.kind x10.number x11.2 x10.datum x10.kids)).set i5.toNat (PCore.mk x12.kind x12.number x12.params (PDat.mk x11.1 x12.datum.number x12.datum.text x12.datum.items) x12.kids)).set i5.toNat (PCore.mk x13.kind x13.number x13.params (PDat.mk x13.datum.kind (x11.1 + 1) x13.datum.text x13.datum.items) x13.kids)).set i5.toNat (PCore.mk x15.kind x15.number x15.params (PDat.mk x15.datum.kind x15.datum.number x14 x15.datum.items) x15.kids)).set i5.toNat (PCore.mk x16.kind x16.number x16.params (PDat.mk x16.datum.kind x16.datum.number x16.datum.text x17.2) x16.kids)) i5) fun x18 =>
  bnd (w_markCoreS x18.kids x17.1) fun x19 =>
  chk (x19.2.length = x18.kids.length) <|
  chk (I64 (i5 + 1)) <|
  go7 (x19.1, (i5 + 1), ((((((((a6.set i5.toNat (PCore.mk k4 x8.number x8.params x8.datum x8.kids)).set i5.toNat (PCore.mk x9.kind (k4 + 1) x9.params x9.datum x9.kids)).set i5.toNat (PCore.mk x10.kind x10.number x11.2 x10.datum x10.kids)).set i5.toNat (PCore.mk x12.kind x12.number x12.params (PDat.mk x11.1 x12.datum.number x12.datum.text x12.datum.items) x12.kids)).set i5.toNat (PCore.mk x13.kind x13.number x13.params (PDat.mk x13.datum.kind (x11.1 + 1) x13.datum.text x13.datum.items) x13.kids)).set i5.toNat (PCore.mk x15.kind x15.number x15.params (PDat.mk x15.datum.kind x15.datum.number x14 x15.datum.items) x15.kids)).set i5.toNat (PCore.mk x16.kind x16.number x16.params (PDat.mk x16.datum.kind x16.datum.number x16.datum.text x17.2) x16.kids)).set i5.toNat (PCore.mk x18.kind x18.number x18.params x18.datum x19.2)))
 else
  some (k4, a6)
def w_markCoreS_L1 (w_markCoreS : List PCore → Int → Option (Int × List PCore)) (go : (Int × Int × List PCore) → Option (Int × List PCore)) (v : Int × Int × List PCore) : Option (Int × List PCore) :=
 match v with
 | (k4, i5, a6) => w_markCoreS_L1b w_markCoreS go k4 i5 a6
def w_markCoreS_b (w_markCoreS : List PCore → Int → Option (Int × List PCore)) (a : List PCore) (k : Int) : Option (Int × List PCore) :=
 itr (w_markCoreS_L1 w_markCoreS) LF (k, 0, a)
def w_markCoreS : Nat → List PCore → Int → Option (Int × List PCore)
 | 0, _, _ => none
 | n + 1, a, k => w_markCoreS_b (w_markCoreS n) a k
def w_markCore (a : PCore) (k : Int) : Option (Int × List Int × List PDat × List PCore) :=
 bnd (w_markIntS a.params k) fun x3 =>
 chk (x3.2.length = a.params.length) <|
 bnd (w_markDatum a.datum x3.1) fun x4 =>
 chk (x4.2.length = a.datum.items.length) <|
 bnd (w_markCoreS RF a.kids x4.1) fun x5 =>
 chk (x5.2.length = a.kids.length) <|
 some (x5.1, x3.2, x4.2, x5.2)
def w_heldIntS_L1b (a : List Int) (go5 : (Int × Int) → Option Int) (k3 : Int) (i4 : Int) : Option Int :=
 if i4 < (a.length : Int) then
  bnd (nth a i4) fun x6 =>
  if x6 = k3 then
   chk (I64 (k3 + 1)) <|
   chk (I64 (i4 + 1)) <|
   go5 ((k3 + 1), (i4 + 1))
  else
   some (-1)
 else
  some k3
def w_heldIntS_L1 (a : List Int) (go : (Int × Int) → Option Int) (v : Int × Int) : Option Int :=
 match v with
 | (k3, i4) => w_heldIntS_L1b a go k3 i4
def w_heldIntS (a : List Int) (k : Int) : Option Int :=
 itr (w_heldIntS_L1 a) LF (k, 0)
def w_heldDatumS_L1b (w_heldDatumS : List PDat → Int → Option Int) (a : List PDat) (go6 : (Int × Int) → Option Int) (k4 : Int) (i5 : Int) : Option Int :=
 if i5 < (a.length : Int) then
  bnd (nth a i5) fun x7 =>
  if x7.kind = k4 then
   chk (I64 (k4 + 1)) <|
   bnd (nth a i5) fun x8 =>
   if x8.number = (k4 + 1) then
    chk (I64 ((k4 + 1) + 1)) <|
    bnd (nth a i5) fun x9 =>
    bnd (w_markText ((k4 + 1) + 1)) fun x10 =>
    if x9.text = x10 then
     chk (I64 (((k4 + 1) + 1) + 1)) <|
     bnd (nth a i5) fun x11 =>
     bnd (w_heldDatumS x11.items (((k4 + 1) + 1) + 1)) fun x12 =>
     if x12 < 0 then
      some (-1)
     else
      chk (I64 (i5 + 1)) <|
      go6 (x12, (i5 + 1))
    else
     some (-1)
   else
    some (-1)
  else
   some (-1)
 else
  some k4
def w_heldDatumS_L1 (w_heldDatumS : List PDat → Int → Option Int) (a : List PDat) (go : (Int × Int) → Option Int) (v : Int × Int) : Option Int :=
 match v with
 | (k4, i5) => w_heldDatumS_L1b w_heldDatumS a go k4 i5
def w_heldDatumS_b (w_heldDatumS : List PDat → Int → Option Int) (a : List PDat) (k : Int) : Option Int :=
 itr (w_heldDatumS_L1 w_heldDatumS a) LF (k, 0)
def w_heldDatumS : Nat → List PDat → Int → Option Int
 | 0, _, _ => none
 | n + 1, a, k => w_heldDatumS_b (w_heldDatumS n) a k
def w_heldDatum (a : PDat) (k : Int) : Option Int :=
 bnd (w_heldDatumS RF a.items k) fun x3 =>
 if x3 < 0 then
  some (-1)
 else
  some x3
def w_heldCoreS_L1b (w_heldCoreS : List PCore → Int → Option Int) (a : List PCore) (go6 : (Int × Int) → Option Int) (k4 : Int) (i5 : Int) : Option Int :=
 if i5 < (a.length : Int) then
  bnd (nth a i5) fun x7 =>
  if x7.kind = k4 then
   chk (I64 (k4 + 1)) <|
   bnd (nth a i5) fun x8 =>
   if x8.number = (k4 + 1) then
    chk (I64 ((k4 + 1) + 1)) <|
    bnd (nth a i5) fun x9 =>
    bnd (w_heldIntS x9.params ((k4 + 1) + 1)) fun x10 =>
    if x10 < 0 then
     some (-1)
    else
     bnd (nth a i5) fun x11 =>
     if x11.datum.kind = x10 then
      chk (I64 (x10 + 1)) <|
      bnd (nth a i5) fun x12 =>
      if x12.datum.number = (x10 + 1) then
       chk (I64 ((x10 + 1) + 1)) <|
       bnd (nth a i5) fun x13 =>
       bnd (w_markText ((x10 + 1) + 1)) fun x14 =>
       if x13.datum.text = x14 then
        chk (I64 (((x10 + 1) + 1) + 1)) <|
        bnd (nth a i5) fun x15 =>
        bnd (w_heldDatumS RF x15.datum.items (((x10 + 1) + 1) + 1)) fun x16 =>
        if x16 < 0 then
         some (-1)
        else
         bnd (nth a i5) fun x17 =>
         bnd (w_heldCoreS x17.kids x16) fun x18 =>
         if x18 < 0 then
          some (-1)
         else
          chk (I64 (i5 + 1)) <|
          go6 (x18, (i5 + 1))
       else
        some (-1)
      else
       some (-1)
     else
      some (-1)
   else
    some (-1)
  else
   some (-1)
 else
  some k4
def w_heldCoreS_L1 (w_heldCoreS : List PCore → Int → Option Int) (a : List PCore) (go : (Int × Int) → Option Int) (v : Int × Int) : Option Int :=
 match v with
 | (k4, i5) => w_heldCoreS_L1b w_heldCoreS a go k4 i5
def w_heldCoreS_b (w_heldCoreS : List PCore → Int → Option Int) (a : List PCore) (k : Int) : Option Int :=
 itr (w_heldCoreS_L1 w_heldCoreS a) LF (k, 0)
def w_heldCoreS : Nat → List PCore → Int → Option Int
 | 0, _, _ => none
 | n + 1, a, k => w_heldCoreS_b (w_heldCoreS n) a k
def w_heldCore (a : PCore) (k : Int) : Option Int :=
 bnd (w_heldIntS a.params k) fun x3 =>
 if x3 < 0 then
  some (-1)
 else
  bnd (w_heldDatum a.datum x3) fun x4 =>
  if x4 < 0 then
   some (-1)
  else
   bnd (w_heldCoreS RF a.kids x4) fun x5 =>
   if x5 < 0 then
    some (-1)
   else
    some x5
def w_FnExactSimplifyNode (aC : PCore) (aBoxed : List Int) : Option Bool :=
 if (aBoxed.length : Int) > 1048576 then
  some true
 else
  bnd (w_szCore RF aC 1048576) fun x3 =>
  if x3 < 0 then
   some true
  else
   bnd (w_toCore RF aC) fun x4 =>
   bnd (w_toIntS aBoxed) fun x5 =>
   bnd (s_SimplifyNode x4 x5) fun x6 =>
   bnd (w_toCore RF aC) fun x7 =>
   bnd (w_toIntS aBoxed) fun x8 =>
   bnd (i_SimplifyNode x7 x8) fun x9 =>
   bnd (w_eqCore RF x9.1 x6.1) fun x10 =>
   if x10 = true then
    if x9.2 = x6.2 then
     bnd (w_toCore RF aC) fun x11 =>
     bnd (w_eqCore RF x7 x11) fun x12 =>
     if x12 = true then
      bnd (w_toIntS aBoxed) fun x13 =>
      bnd (w_eqIntS x8 x13) fun x14 =>
      if x14 = true then
       bnd (w_markCore x7 1) fun x15 =>
       chk (x15.2.1.length = x7.params.length) <|
       chk (x15.2.2.1.length = x7.datum.items.length) <|
       chk (x15.2.2.2.length = x7.kids.length) <|
       bnd (w_markIntS x8 x15.1) fun x16 =>
       chk (x16.2.length = x8.length) <|
       if x16.1 < 0 then
        some false
       else
        bnd (w_eqCore RF x9.1 x6.1) fun x17 =>
        if x17 = true then
         if x9.2 = x6.2 then
          bnd (w_markCore x9.1 1) fun x18 =>
          chk (x18.2.1.length = x9.1.params.length) <|
          chk (x18.2.2.1.length = x9.1.datum.items.length) <|
          chk (x18.2.2.2.length = x9.1.kids.length) <|
          bnd (w_heldCore (PCore.mk x9.1.kind x9.1.number x18.2.1 (PDat.mk x9.1.datum.kind x9.1.datum.number x9.1.datum.text x18.2.2.1) x18.2.2.2) 1) fun x19 =>
          if x19 < 0 then
           some false
          else
           if x19 = x18.1 then
            bnd (w_toCore RF aC) fun x20 =>
            bnd (w_toIntS aBoxed) fun x21 =>
            bnd (i_SimplifyNode x20 x21) fun x22 =>
            bnd (w_eqCore RF x22.1 x6.1) fun x23 =>
            if x23 = true then
             if x22.2 = x6.2 then
              bnd (w_heldCore (PCore.mk x9.1.kind x9.1.number x18.2.1 (PDat.mk x9.1.datum.kind x9.1.datum.number x9.1.datum.text x18.2.2.1) x18.2.2.2) 1) fun x24 =>
              if x24 < 0 then
               some false
              else
               if x24 = x18.1 then
                some true
               else
                some false
             else
              some false
            else
             some false
           else
            some false
         else
          some false
        else
         some false
      else
       some false
     else
      some false
    else
     some false
   else
    some false
end Go.Abs
