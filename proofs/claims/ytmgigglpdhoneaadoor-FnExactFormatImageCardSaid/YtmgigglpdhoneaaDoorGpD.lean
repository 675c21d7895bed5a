/-
  Programs, made by wip/gen: D
-/
import Derived.Test.YtmgigglpdhoneaaDoorGpC
set_option linter.unusedVariables false
set_option linter.unusedSimpArgs false
namespace Go.Abs
set_option linter.unusedVariables false

def w_szValue (a : PVal) (left : Int) : Option Int :=
  chk (I64 (left - (a.text.length : Int))) <|
  if (left - (a.text.length : Int)) < 0 then
    some (-1)
  else
    some (left - (a.text.length : Int))

def w_szPair (a : PPair) (left : Int) : Option Int :=
  bnd (w_szValue a.h left) fun x3 =>
  if x3 < 0 then
    some (-1)
  else
    bnd (w_szValue a.t x3) fun x4 =>
    if x4 < 0 then
      some (-1)
    else
      some x4

def w_szPairS_L1b (a : List PPair) (go5 : (Int × Int) → Option Int) (left3 : Int) (i4 : Int) : Option Int :=
  if i4 < (a.length : Int) then
    bnd (nth a i4) fun x6 =>
    bnd (w_szPair x6 left3) fun x7 =>
    if x7 < 0 then
      some (-1)
    else
      chk (I64 (i4 + 1)) <|
      go5 (x7, (i4 + 1))
  else
    some left3

def w_szPairS_L1 (a : List PPair) (go : (Int × Int) → Option Int) (v : Int × Int) : Option Int :=
  match v with
  | (left3, i4) => w_szPairS_L1b a go left3 i4

def w_szPairS (a : List PPair) (left : Int) : Option Int :=
  chk (I64 (left - (a.length : Int))) <|
  if (left - (a.length : Int)) < 0 then
    some (-1)
  else
    itr (w_szPairS_L1 a) LF ((left - (a.length : Int)), 0)

def w_szIntS (a : List Int) (left : Int) : Option Int :=
  chk (I64 (left - (a.length : Int))) <|
  if (left - (a.length : Int)) < 0 then
    some (-1)
  else
    some (left - (a.length : Int))

def w_szDatum_b (w_szDatum : PDat → Int → Option Int) (w_szDatumS : List PDat → Int → Option Int) (a : PDat) (left : Int) : Option Int :=
  chk (I64 (left - (a.text.length : Int))) <|
  if (left - (a.text.length : Int)) < 0 then
    some (-1)
  else
    bnd (w_szDatumS a.items (left - (a.text.length : Int))) fun x5 =>
    if x5 < 0 then
      some (-1)
    else
      some x5

def w_szDatumS_L1b (w_szDatum : PDat → Int → Option Int) (a : List PDat) (go7 : (Int × Int) → Option Int) (left5 : Int) (i6 : Int) : Option Int :=
  if i6 < (a.length : Int) then
    bnd (nth a i6) fun x8 =>
    bnd (w_szDatum x8 left5) fun x9 =>
    if x9 < 0 then
      some (-1)
    else
      chk (I64 (i6 + 1)) <|
      go7 (x9, (i6 + 1))
  else
    some left5

def w_szDatumS_L1 (w_szDatum : PDat → Int → Option Int) (a : List PDat) (go : (Int × Int) → Option Int) (v : Int × Int) : Option Int :=
  match v with
  | (left5, i6) => w_szDatumS_L1b w_szDatum a go left5 i6

def w_szDatumS_b (w_szDatum : PDat → Int → Option Int) (w_szDatumS : List PDat → Int → Option Int) (a : List PDat) (left : Int) : Option Int :=
  chk (I64 (left - (a.length : Int))) <|
  if (left - (a.length : Int)) < 0 then
    some (-1)
  else
    itr (w_szDatumS_L1 w_szDatum a) LF ((left - (a.length : Int)), 0)

mutual
def w_szDatum : Nat → PDat → Int → Option Int
  | 0, _, _ => none
  | n + 1, a, left => w_szDatum_b (w_szDatum n) (w_szDatumS n) a left
def w_szDatumS : Nat → List PDat → Int → Option Int
  | 0, _, _ => none
  | n + 1, a, left => w_szDatumS_b (w_szDatum n) (w_szDatumS n) a left
end

def w_szInstr (a : PInstr) (left : Int) : Option Int :=
  bnd (w_szDatum RF a.d left) fun x3 =>
  if x3 < 0 then
    some (-1)
  else
    some x3

def w_szInstrS_L1b (a : List PInstr) (go5 : (Int × Int) → Option Int) (left3 : Int) (i4 : Int) : Option Int :=
  if i4 < (a.length : Int) then
    bnd (nth a i4) fun x6 =>
    bnd (w_szInstr x6 left3) fun x7 =>
    if x7 < 0 then
      some (-1)
    else
      chk (I64 (i4 + 1)) <|
      go5 (x7, (i4 + 1))
  else
    some left3

def w_szInstrS_L1 (a : List PInstr) (go : (Int × Int) → Option Int) (v : Int × Int) : Option Int :=
  match v with
  | (left3, i4) => w_szInstrS_L1b a go left3 i4

def w_szInstrS (a : List PInstr) (left : Int) : Option Int :=
  chk (I64 (left - (a.length : Int))) <|
  if (left - (a.length : Int)) < 0 then
    some (-1)
  else
    itr (w_szInstrS_L1 a) LF ((left - (a.length : Int)), 0)

def w_szCode (a : PCode) (left : Int) : Option Int :=
  bnd (w_szInstrS a.instrs left) fun x3 =>
  if x3 < 0 then
    some (-1)
  else
    some x3

def w_szCodeS_L1b (a : List PCode) (go5 : (Int × Int) → Option Int) (left3 : Int) (i4 : Int) : Option Int :=
  if i4 < (a.length : Int) then
    bnd (nth a i4) fun x6 =>
    bnd (w_szCode x6 left3) fun x7 =>
    if x7 < 0 then
      some (-1)
    else
      chk (I64 (i4 + 1)) <|
      go5 (x7, (i4 + 1))
  else
    some left3

def w_szCodeS_L1 (a : List PCode) (go : (Int × Int) → Option Int) (v : Int × Int) : Option Int :=
  match v with
  | (left3, i4) => w_szCodeS_L1b a go left3 i4

def w_szCodeS (a : List PCode) (left : Int) : Option Int :=
  chk (I64 (left - (a.length : Int))) <|
  if (left - (a.length : Int)) < 0 then
    some (-1)
  else
    itr (w_szCodeS_L1 a) LF ((left - (a.length : Int)), 0)

def w_szImage (a : PImage) (left : Int) : Option Int :=
  bnd (w_szCodeS a.codes left) fun x3 =>
  if x3 < 0 then
    some (-1)
  else
    some x3

def w_eqIntS_L1b (a : List Int) (b : List Int) (go4 : Int → Option Bool) (i3 : Int) : Option Bool :=
  if i3 < (a.length : Int) then
    bnd (nth a i3) fun x5 =>
    bnd (nth b i3) fun x6 =>
    if x5 = x6 then
      chk (I64 (i3 + 1)) <|
      go4 (i3 + 1)
    else
      some false
  else
    some true

def w_eqIntS_L1 (a : List Int) (b : List Int) (go : Int → Option Bool) (v : Int) : Option Bool :=
  match v with
  | i3 => w_eqIntS_L1b a b go i3

def w_eqIntS (a : List Int) (b : List Int) : Option Bool :=
  if (a.length : Int) = (b.length : Int) then
    itr (w_eqIntS_L1 a b) LF 0
  else
    some false

def w_eqValue (a : PVal) (b : PVal) : Option Bool :=
  if a.kind = b.kind then
    if a.number = b.number then
      if a.text = b.text then
        some true
      else
        some false
    else
      some false
  else
    some false

def w_eqPair (a : PPair) (b : PPair) : Option Bool :=
  bnd (w_eqValue a.h b.h) fun x3 =>
  if x3 = true then
    bnd (w_eqValue a.t b.t) fun x4 =>
    if x4 = true then
      some true
    else
      some false
  else
    some false

def w_eqPairS_L1b (a : List PPair) (b : List PPair) (go4 : Int → Option Bool) (i3 : Int) : Option Bool :=
  if i3 < (a.length : Int) then
    bnd (nth a i3) fun x5 =>
    bnd (nth b i3) fun x6 =>
    bnd (w_eqPair x5 x6) fun x7 =>
    if x7 = true then
      chk (I64 (i3 + 1)) <|
      go4 (i3 + 1)
    else
      some false
  else
    some true

def w_eqPairS_L1 (a : List PPair) (b : List PPair) (go : Int → Option Bool) (v : Int) : Option Bool :=
  match v with
  | i3 => w_eqPairS_L1b a b go i3

def w_eqPairS (a : List PPair) (b : List PPair) : Option Bool :=
  if (a.length : Int) = (b.length : Int) then
    itr (w_eqPairS_L1 a b) LF 0
  else
    some false

def w_eqDatum_b (w_eqDatum : PDat → PDat → Option Bool) (w_eqDatumS : List PDat → List PDat → Option Bool) (a : PDat) (b : PDat) : Option Bool :=
  if a.kind = b.kind then
    if a.number = b.number then
      if a.text = b.text then
        bnd (w_eqDatumS a.items b.items) fun x5 =>
        if x5 = true then
          some true
        else
          some false
      else
        some false
    else
      some false
  else
    some false

def w_eqDatumS_L1b (w_eqDatum : PDat → PDat → Option Bool) (a : List PDat) (b : List PDat) (go6 : Int → Option Bool) (i5 : Int) : Option Bool :=
  if i5 < (a.length : Int) then
    bnd (nth a i5) fun x7 =>
    bnd (nth b i5) fun x8 =>
    bnd (w_eqDatum x7 x8) fun x9 =>
    if x9 = true then
      chk (I64 (i5 + 1)) <|
      go6 (i5 + 1)
    else
      some false
  else
    some true

def w_eqDatumS_L1 (w_eqDatum : PDat → PDat → Option Bool) (a : List PDat) (b : List PDat) (go : Int → Option Bool) (v : Int) : Option Bool :=
  match v with
  | i5 => w_eqDatumS_L1b w_eqDatum a b go i5

def w_eqDatumS_b (w_eqDatum : PDat → PDat → Option Bool) (w_eqDatumS : List PDat → List PDat → Option Bool) (a : List PDat) (b : List PDat) : Option Bool :=
  if (a.length : Int) = (b.length : Int) then
    itr (w_eqDatumS_L1 w_eqDatum a b) LF 0
  else
    some false

mutual
def w_eqDatum : Nat → PDat → PDat → Option Bool
  | 0, _, _ => none
  | n + 1, a, b => w_eqDatum_b (w_eqDatum n) (w_eqDatumS n) a b
def w_eqDatumS : Nat → List PDat → List PDat → Option Bool
  | 0, _, _ => none
  | n + 1, a, b => w_eqDatumS_b (w_eqDatum n) (w_eqDatumS n) a b
end

def w_eqInstr (a : PInstr) (b : PInstr) : Option Bool :=
  if a.op = b.op then
    if a.a = b.a then
      bnd (w_eqDatum RF a.d b.d) fun x3 =>
      if x3 = true then
        some true
      else
        some false
    else
      some false
  else
    some false

def w_eqInstrS_L1b (a : List PInstr) (b : List PInstr) (go4 : Int → Option Bool) (i3 : Int) : Option Bool :=
  if i3 < (a.length : Int) then
    bnd (nth a i3) fun x5 =>
    bnd (nth b i3) fun x6 =>
    bnd (w_eqInstr x5 x6) fun x7 =>
    if x7 = true then
      chk (I64 (i3 + 1)) <|
      go4 (i3 + 1)
    else
      some false
  else
    some true

def w_eqInstrS_L1 (a : List PInstr) (b : List PInstr) (go : Int → Option Bool) (v : Int) : Option Bool :=
  match v with
  | i3 => w_eqInstrS_L1b a b go i3

def w_eqInstrS (a : List PInstr) (b : List PInstr) : Option Bool :=
  if (a.length : Int) = (b.length : Int) then
    itr (w_eqInstrS_L1 a b) LF 0
  else
    some false

def w_eqCode (a : PCode) (b : PCode) : Option Bool :=
  if a.params = b.params then
    if a.slots = b.slots then
      if a.captures = b.captures then
        bnd (w_eqInstrS a.instrs b.instrs) fun x3 =>
        if x3 = true then
          some true
        else
          some false
      else
        some false
    else
      some false
  else
    some false

def w_eqCodeS_L1b (a : List PCode) (b : List PCode) (go4 : Int → Option Bool) (i3 : Int) : Option Bool :=
  if i3 < (a.length : Int) then
    bnd (nth a i3) fun x5 =>
    bnd (nth b i3) fun x6 =>
    bnd (w_eqCode x5 x6) fun x7 =>
    if x7 = true then
      chk (I64 (i3 + 1)) <|
      go4 (i3 + 1)
    else
      some false
  else
    some true

def w_eqCodeS_L1 (a : List PCode) (b : List PCode) (go : Int → Option Bool) (v : Int) : Option Bool :=
  match v with
  | i3 => w_eqCodeS_L1b a b go i3

def w_eqCodeS (a : List PCode) (b : List PCode) : Option Bool :=
  if (a.length : Int) = (b.length : Int) then
    itr (w_eqCodeS_L1 a b) LF 0
  else
    some false

def w_eqImage (a : PImage) (b : PImage) : Option Bool :=
  bnd (w_eqCodeS a.codes b.codes) fun x3 =>
  if x3 = true then
    if a.main = b.main then
      some true
    else
      some false
  else
    some false

def w_toIntS_L1b (a : List Int) (go4 : (Int × List Int) → Option (List Int)) (i2 : Int) (out3 : List Int) : Option (List Int) :=
  if i2 < (a.length : Int) then
    bnd (nth a i2) fun x5 =>
    bnd (nth out3 i2) fun x6 =>
    chk (I64 (i2 + 1)) <|
    go4 ((i2 + 1), (out3.set i2.toNat x5))
  else
    some out3

def w_toIntS_L1 (a : List Int) (go : (Int × List Int) → Option (List Int)) (v : Int × List Int) : Option (List Int) :=
  match v with
  | (i2, out3) => w_toIntS_L1b a go i2 out3

def w_toIntS (a : List Int) : Option (List Int) :=
  chk (0 ≤ (a.length : Int) ∧ (8 : Nat) * (a.length : Int) ≤ 281474976710656 ∧ (a.length : Int) ≤ 281474976710656) <|
  itr (w_toIntS_L1 a) LF (0, (List.replicate (a.length : Int).toNat (0 : Int)))

def w_toValue (a : PVal) : Option PVal :=
  some a

def w_toPair (a : PPair) : Option PPair :=
  bnd (w_toValue a.h) fun x2 =>
  bnd (w_toValue a.t) fun x3 =>
  some (PPair.mk x2 x3)

def w_toPairS_L1b (a : List PPair) (go4 : (Int × List PPair) → Option (List PPair)) (i2 : Int) (out3 : List PPair) : Option (List PPair) :=
  if i2 < (a.length : Int) then
    bnd (nth a i2) fun x5 =>
    bnd (w_toPair x5) fun x6 =>
    bnd (nth out3 i2) fun x7 =>
    chk (I64 (i2 + 1)) <|
    go4 ((i2 + 1), (out3.set i2.toNat x6))
  else
    some out3

def w_toPairS_L1 (a : List PPair) (go : (Int × List PPair) → Option (List PPair)) (v : Int × List PPair) : Option (List PPair) :=
  match v with
  | (i2, out3) => w_toPairS_L1b a go i2 out3

def w_toPairS (a : List PPair) : Option (List PPair) :=
  chk (0 ≤ (a.length : Int) ∧ (64 : Nat) * (a.length : Int) ≤ 281474976710656 ∧ (a.length : Int) ≤ 281474976710656) <|
  itr (w_toPairS_L1 a) LF (0, (List.replicate (a.length : Int).toNat ((PPair.mk (PVal.mk 0 0 ([] : List UInt8)) (PVal.mk 0 0 ([] : List UInt8))) : PPair)))

def w_toDatum_b (w_toDatum : PDat → Option PDat) (w_toDatumS : List PDat → Option (List PDat)) (a : PDat) : Option PDat :=
  bnd (w_toDatumS a.items) fun x4 =>
  some (PDat.mk a.kind a.number a.text x4)

def w_toDatumS_L1b (w_toDatum : PDat → Option PDat) (a : List PDat) (go6 : (Int × List PDat) → Option (List PDat)) (i4 : Int) (out5 : List PDat) : Option (List PDat) :=
  if i4 < (a.length : Int) then
    bnd (nth a i4) fun x7 =>
    bnd (w_toDatum x7) fun x8 =>
    bnd (nth out5 i4) fun x9 =>
    chk (I64 (i4 + 1)) <|
    go6 ((i4 + 1), (out5.set i4.toNat x8))
  else
    some out5

def w_toDatumS_L1 (w_toDatum : PDat → Option PDat) (a : List PDat) (go : (Int × List PDat) → Option (List PDat)) (v : Int × List PDat) : Option (List PDat) :=
  match v with
  | (i4, out5) => w_toDatumS_L1b w_toDatum a go i4 out5

def w_toDatumS_b (w_toDatum : PDat → Option PDat) (w_toDatumS : List PDat → Option (List PDat)) (a : List PDat) : Option (List PDat) :=
  chk (0 ≤ (a.length : Int) ∧ (56 : Nat) * (a.length : Int) ≤ 281474976710656 ∧ (a.length : Int) ≤ 281474976710656) <|
  itr (w_toDatumS_L1 w_toDatum a) LF (0, (List.replicate (a.length : Int).toNat ((PDat.mk 0 0 ([] : List UInt8) []) : PDat)))

mutual
def w_toDatum : Nat → PDat → Option PDat
  | 0, _ => none
  | n + 1, a => w_toDatum_b (w_toDatum n) (w_toDatumS n) a
def w_toDatumS : Nat → List PDat → Option (List PDat)
  | 0, _ => none
  | n + 1, a => w_toDatumS_b (w_toDatum n) (w_toDatumS n) a
end

def w_toInstr (a : PInstr) : Option PInstr :=
  bnd (w_toDatum RF a.d) fun x2 =>
  some (PInstr.mk a.op a.a x2)

def w_toInstrS_L1b (a : List PInstr) (go4 : (Int × List PInstr) → Option (List PInstr)) (i2 : Int) (out3 : List PInstr) : Option (List PInstr) :=
  if i2 < (a.length : Int) then
    bnd (nth a i2) fun x5 =>
    bnd (w_toInstr x5) fun x6 =>
    bnd (nth out3 i2) fun x7 =>
    chk (I64 (i2 + 1)) <|
    go4 ((i2 + 1), (out3.set i2.toNat x6))
  else
    some out3

def w_toInstrS_L1 (a : List PInstr) (go : (Int × List PInstr) → Option (List PInstr)) (v : Int × List PInstr) : Option (List PInstr) :=
  match v with
  | (i2, out3) => w_toInstrS_L1b a go i2 out3

def w_toInstrS (a : List PInstr) : Option (List PInstr) :=
  chk (0 ≤ (a.length : Int) ∧ (72 : Nat) * (a.length : Int) ≤ 281474976710656 ∧ (a.length : Int) ≤ 281474976710656) <|
  itr (w_toInstrS_L1 a) LF (0, (List.replicate (a.length : Int).toNat ((PInstr.mk 0 0 (PDat.mk 0 0 ([] : List UInt8) [])) : PInstr)))

def w_toCode (a : PCode) : Option PCode :=
  bnd (w_toInstrS a.instrs) fun x2 =>
  some (PCode.mk a.params a.slots a.captures x2)

def w_toCodeS_L1b (a : List PCode) (go4 : (Int × List PCode) → Option (List PCode)) (i2 : Int) (out3 : List PCode) : Option (List PCode) :=
  if i2 < (a.length : Int) then
    bnd (nth a i2) fun x5 =>
    bnd (w_toCode x5) fun x6 =>
    bnd (nth out3 i2) fun x7 =>
    chk (I64 (i2 + 1)) <|
    go4 ((i2 + 1), (out3.set i2.toNat x6))
  else
    some out3

def w_toCodeS_L1 (a : List PCode) (go : (Int × List PCode) → Option (List PCode)) (v : Int × List PCode) : Option (List PCode) :=
  match v with
  | (i2, out3) => w_toCodeS_L1b a go i2 out3

def w_toCodeS (a : List PCode) : Option (List PCode) :=
  chk (0 ≤ (a.length : Int) ∧ (48 : Nat) * (a.length : Int) ≤ 281474976710656 ∧ (a.length : Int) ≤ 281474976710656) <|
  itr (w_toCodeS_L1 a) LF (0, (List.replicate (a.length : Int).toNat ((PCode.mk 0 0 0 []) : PCode)))

def w_toImage (a : PImage) : Option PImage :=
  bnd (w_toCodeS a.codes) fun x2 =>
  some (PImage.mk x2 a.main)

def w_markText_L1b (go4 : (Int × List UInt8) → Option (List UInt8)) (k2 : Int) (out3 : List UInt8) : Option (List UInt8) :=
  if k2 > 0 then
    chk (0 ≤ k2 ∧ k2 ≤ 9223372036854775807 ∧ (0 : Int) < 10) <|
    chk (I64 (48 + (k2 % 10))) <|
    chk (0 ≤ (48 + (k2 % 10)) ∧ (48 + (k2 % 10)) ≤ 255) <|
    chk (([(UInt8.ofNat (48 + (k2 % 10)).toNat)] : List UInt8).length + out3.length ≤ 9223372036854775807) <|
    chk (0 ≤ k2 ∧ k2 ≤ 9223372036854775807 ∧ (0 : Int) < 10) <|
    go4 ((k2 / 10), (([(UInt8.ofNat (48 + (k2 % 10)).toNat)] : List UInt8) ++ out3))
  else
    chk (([109] : List UInt8).length + out3.length ≤ 9223372036854775807) <|
    some (([109] : List UInt8) ++ out3)

def w_markText_L1 (go : (Int × List UInt8) → Option (List UInt8)) (v : Int × List UInt8) : Option (List UInt8) :=
  match v with
  | (k2, out3) => w_markText_L1b go k2 out3

def w_markText (k : Int) : Option (List UInt8) :=
  if k ≤ 0 then
    some ([109, 48] : List UInt8)
  else
    itr w_markText_L1 LF (k, ([] : List UInt8))

def w_markIntS_L1b (go6 : (Int × Int × List Int) → Option (Int × List Int)) (k3 : Int) (i4 : Int) (a5 : List Int) : Option (Int × List Int) :=
  if i4 < (a5.length : Int) then
    bnd (nth a5 i4) fun x7 =>
    chk (I64 (k3 + 1)) <|
    chk (I64 (i4 + 1)) <|
    go6 ((k3 + 1), (i4 + 1), (a5.set i4.toNat k3))
  else
    some (k3, a5)

def w_markIntS_L1 (go : (Int × Int × List Int) → Option (Int × List Int)) (v : Int × Int × List Int) : Option (Int × List Int) :=
  match v with
  | (k3, i4, a5) => w_markIntS_L1b go k3 i4 a5

def w_markIntS (a : List Int) (k : Int) : Option (Int × List Int) :=
  itr w_markIntS_L1 LF (k, 0, a)

def w_heldIntS_L1b (a : List Int) (go5 : (Int × Int) → Option Int) (k3 : Int) (i4 : Int) : Option Int :=
  if i4 < (a.length : Int) then
    bnd (nth a i4) fun x6 =>
    if x6 = k3 then
      chk (I64 (k3 + 1)) <|
      chk (I64 (i4 + 1)) <|
      go5 ((k3 + 1), (i4 + 1))
    else
      some (-1)
  else
    some k3

def w_heldIntS_L1 (a : List Int) (go : (Int × Int) → Option Int) (v : Int × Int) : Option Int :=
  match v with
  | (k3, i4) => w_heldIntS_L1b a go k3 i4

def w_heldIntS (a : List Int) (k : Int) : Option Int :=
  itr (w_heldIntS_L1 a) LF (k, 0)

def w_markPairS_L1b (go6 : (Int × Int × List PPair) → Option (Int × List PPair)) (k3 : Int) (i4 : Int) (a5 : List PPair) : Option (Int × List PPair) :=
  if i4 < (a5.length : Int) then
    bnd (nth a5 i4) fun x7 =>
    chk (I64 (k3 + 1)) <|
    bnd (nth (a5.set i4.toNat (PPair.mk (PVal.mk k3 x7.h.number x7.h.text) x7.t)) i4) fun x8 =>
    chk (I64 ((k3 + 1) + 1)) <|
    bnd (w_markText ((k3 + 1) + 1)) fun x9 =>
    bnd (nth ((a5.set i4.toNat (PPair.mk (PVal.mk k3 x7.h.number x7.h.text) x7.t)).set i4.toNat (PPair.mk (PVal.mk x8.h.kind (k3 + 1) x8.h.text) x8.t)) i4) fun x10 =>
    chk (I64 (((k3 + 1) + 1) + 1)) <|
    bnd (nth (((a5.set i4.toNat (PPair.mk (PVal.mk k3 x7.h.number x7.h.text) x7.t)).set i4.toNat (PPair.mk (PVal.mk x8.h.kind (k3 + 1) x8.h.text) x8.t)).set i4.toNat (PPair.mk (PVal.mk x10.h.kind x10.h.number x9) x10.t)) i4) fun x11 =>
    chk (I64 ((((k3 + 1) + 1) + 1) + 1)) <|
    bnd (nth ((((a5.set i4.toNat (PPair.mk (PVal.mk k3 x7.h.number x7.h.text) x7.t)).set i4.toNat (PPair.mk (PVal.mk x8.h.kind (k3 + 1) x8.h.text) x8.t)).set i4.toNat (PPair.mk (PVal.mk x10.h.kind x10.h.number x9) x10.t)).set i4.toNat (PPair.mk x11.h (PVal.mk (((k3 + 1) + 1) + 1) x11.t.number x11.t.text))) i4) fun x12 =>
    chk (I64 (((((k3 + 1) + 1) + 1) + 1) + 1)) <|
    bnd (w_markText (((((k3 + 1) + 1) + 1) + 1) + 1)) fun x13 =>
    bnd (nth (((((a5.set i4.toNat (PPair.mk (PVal.mk k3 x7.h.number x7.h.text) x7.t)).set i4.toNat (PPair.mk (PVal.mk x8.h.kind (k3 + 1) x8.h.text) x8.t)).set i4.toNat (PPair.mk (PVal.mk x10.h.kind x10.h.number x9) x10.t)).set i4.toNat (PPair.mk x11.h (PVal.mk (((k3 + 1) + 1) + 1) x11.t.number x11.t.text))).set i4.toNat (PPair.mk x12.h (PVal.mk x12.t.kind ((((k3 + 1) + 1) + 1) + 1) x12.t.text))) i4) fun x14 =>
    chk (I64 ((((((k3 + 1) + 1) + 1) + 1) + 1) + 1)) <|
    chk (I64 (i4 + 1)) <|
    go6 (((((((k3 + 1) + 1) + 1) + 1) + 1) + 1), (i4 + 1), ((((((a5.set i4.toNat (PPair.mk (PVal.mk k3 x7.h.number x7.h.text) x7.t)).set i4.toNat (PPair.mk (PVal.mk x8.h.kind (k3 + 1) x8.h.text) x8.t)).set i4.toNat (PPair.mk (PVal.mk x10.h.kind x10.h.number x9) x10.t)).set i4.toNat (PPair.mk x11.h (PVal.mk (((k3 + 1) + 1) + 1) x11.t.number x11.t.text))).set i4.toNat (PPair.mk x12.h (PVal.mk x12.t.kind ((((k3 + 1) + 1) + 1) + 1) x12.t.text))).set i4.toNat (PPair.mk x14.h (PVal.mk x14.t.kind x14.t.number x13))))
  else
    some (k3, a5)

def w_markPairS_L1 (go : (Int × Int × List PPair) → Option (Int × List PPair)) (v : Int × Int × List PPair) : Option (Int × List PPair) :=
  match v with
  | (k3, i4, a5) => w_markPairS_L1b go k3 i4 a5

def w_markPairS (a : List PPair) (k : Int) : Option (Int × List PPair) :=
  itr w_markPairS_L1 LF (k, 0, a)

def w_heldPairS_L1b (a : List PPair) (go5 : (Int × Int) → Option Int) (k3 : Int) (i4 : Int) : Option Int :=
  if i4 < (a.length : Int) then
    bnd (nth a i4) fun x6 =>
    if x6.h.kind = k3 then
      chk (I64 (k3 + 1)) <|
      bnd (nth a i4) fun x7 =>
      if x7.h.number = (k3 + 1) then
        chk (I64 ((k3 + 1) + 1)) <|
        bnd (nth a i4) fun x8 =>
        bnd (w_markText ((k3 + 1) + 1)) fun x9 =>
        if x8.h.text = x9 then
          chk (I64 (((k3 + 1) + 1) + 1)) <|
          bnd (nth a i4) fun x10 =>
          if x10.t.kind = (((k3 + 1) + 1) + 1) then
            chk (I64 ((((k3 + 1) + 1) + 1) + 1)) <|
            bnd (nth a i4) fun x11 =>
            if x11.t.number = ((((k3 + 1) + 1) + 1) + 1) then
              chk (I64 (((((k3 + 1) + 1) + 1) + 1) + 1)) <|
              bnd (nth a i4) fun x12 =>
              bnd (w_markText (((((k3 + 1) + 1) + 1) + 1) + 1)) fun x13 =>
              if x12.t.text = x13 then
                chk (I64 ((((((k3 + 1) + 1) + 1) + 1) + 1) + 1)) <|
                chk (I64 (i4 + 1)) <|
                go5 (((((((k3 + 1) + 1) + 1) + 1) + 1) + 1), (i4 + 1))
              else
                some (-1)
            else
              some (-1)
          else
            some (-1)
        else
          some (-1)
      else
        some (-1)
    else
      some (-1)
  else
    some k3

def w_heldPairS_L1 (a : List PPair) (go : (Int × Int) → Option Int) (v : Int × Int) : Option Int :=
  match v with
  | (k3, i4) => w_heldPairS_L1b a go k3 i4

def w_heldPairS (a : List PPair) (k : Int) : Option Int :=
  itr (w_heldPairS_L1 a) LF (k, 0)

end Go.Abs
