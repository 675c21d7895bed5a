/-
  Programs, made by wip/gen: E
-/
import Derived.Test.YtiecdekmiabmkaaGpD
set_option linter.unusedVariables false
set_option linter.unusedSimpArgs false
namespace Go.Abs
set_option linter.unusedVariables false

def w_markText_L1b (go4 : (Int × List UInt8) → Option (List UInt8)) (k2 : Int) (out3 : List UInt8) : Option (List UInt8) :=
  if k2 > 0 then
    chk (0 ≤ k2 ∧ k2 ≤ 9223372036854775807 ∧ (0 : Int) < 10) <|
    chk (I64 (48 + (k2 % 10))) <|
    chk (0 ≤ (48 + (k2 % 10)) ∧ (48 + (k2 % 10)) ≤ 255) <|
    chk (([(UInt8.ofNat (48 + (k2 % 10)).toNat)] : List UInt8).length + out3.length ≤ 9223372036854775807) <|
    chk (0 ≤ k2 ∧ k2 ≤ 9223372036854775807 ∧ (0 : Int) < 10) <|
    go4 ((k2 / 10), (([(UInt8.ofNat (48 + (k2 % 10)).toNat)] : List UInt8) ++ out3))
  else
    chk (([109] : List UInt8).length + out3.length ≤ 9223372036854775807) <|
    some (([109] : List UInt8) ++ out3)

def w_markText_L1 (go : (Int × List UInt8) → Option (List UInt8)) (v : Int × List UInt8) : Option (List UInt8) :=
  match v with
  | (k2, out3) => w_markText_L1b go k2 out3

def w_markText (k : Int) : Option (List UInt8) :=
  if k ≤ 0 then
    some ([109, 48] : List UInt8)
  else
    itr w_markText_L1 LF (k, ([] : List UInt8))

def w_markDatumS_L1b (w_markDatumS : List PDat → Int → Option (Int × List PDat)) (go7 : (Int × Int × List PDat) → Option (Int × List PDat)) (k4 : Int) (i5 : Int) (a6 : List PDat) : Option (Int × List PDat) :=
  if i5 < (a6.length : Int) then
    bnd (nth a6 i5) fun x8 =>
    chk (I64 (k4 + 1)) <|
    bnd (nth (a6.set i5.toNat (PDat.mk k4 x8.number x8.text x8.items)) i5) fun x9 =>
    chk (I64 ((k4 + 1) + 1)) <|
    bnd (w_markText ((k4 + 1) + 1)) fun x10 =>
    bnd (nth ((a6.set i5.toNat (PDat.mk k4 x8.number x8.text x8.items)).set i5.toNat (PDat.mk x9.kind (k4 + 1) x9.text x9.items)) i5) fun x11 =>
    chk (I64 (((k4 + 1) + 1) + 1)) <|
    bnd (nth (((a6.set i5.toNat (PDat.mk k4 x8.number x8.text x8.items)).set i5.toNat (PDat.mk x9.kind (k4 + 1) x9.text x9.items)).set i5.toNat (PDat.mk x11.kind x11.number x10 x11.items)) i5) fun x12 =>
    bnd (w_markDatumS x12.items (((k4 + 1) + 1) + 1)) fun x13 =>
    chk (x13.2.length = x12.items.length) <|
    chk (I64 (i5 + 1)) <|
    go7 (x13.1, (i5 + 1), ((((a6.set i5.toNat (PDat.mk k4 x8.number x8.text x8.items)).set i5.toNat (PDat.mk x9.kind (k4 + 1) x9.text x9.items)).set i5.toNat (PDat.mk x11.kind x11.number x10 x11.items)).set i5.toNat (PDat.mk x12.kind x12.number x12.text x13.2)))
  else
    some (k4, a6)

def w_markDatumS_L1 (w_markDatumS : List PDat → Int → Option (Int × List PDat)) (go : (Int × Int × List PDat) → Option (Int × List PDat)) (v : Int × Int × List PDat) : Option (Int × List PDat) :=
  match v with
  | (k4, i5, a6) => w_markDatumS_L1b w_markDatumS go k4 i5 a6

def w_markDatumS_b (w_markDatumS : List PDat → Int → Option (Int × List PDat)) (a : List PDat) (k : Int) : Option (Int × List PDat) :=
  itr (w_markDatumS_L1 w_markDatumS) LF (k, 0, a)

def w_markDatumS : Nat → List PDat → Int → Option (Int × List PDat)
  | 0, _, _ => none
  | n + 1, a, k => w_markDatumS_b (w_markDatumS n) a k

def w_markInstrS_L1b (a : List PInstr) (go6 : (Int × Int × List PInstr) → Option (Int × List PInstr)) (k3 : Int) (i4 : Int) (a5 : List PInstr) : Option (Int × List PInstr) :=
  if i4 < (a5.length : Int) then
    bnd (nth a5 i4) fun x7 =>
    chk (I64 (k3 + 1)) <|
    bnd (nth (a5.set i4.toNat (PInstr.mk k3 x7.a x7.d)) i4) fun x8 =>
    chk (I64 ((k3 + 1) + 1)) <|
    bnd (nth ((a5.set i4.toNat (PInstr.mk k3 x7.a x7.d)).set i4.toNat (PInstr.mk x8.op (k3 + 1) x8.d)) i4) fun x9 =>
    chk (I64 (((k3 + 1) + 1) + 1)) <|
    bnd (nth (((a5.set i4.toNat (PInstr.mk k3 x7.a x7.d)).set i4.toNat (PInstr.mk x8.op (k3 + 1) x8.d)).set i4.toNat (PInstr.mk x9.op x9.a (PDat.mk ((k3 + 1) + 1) x9.d.number x9.d.text x9.d.items))) i4) fun x10 =>
    chk (I64 ((((k3 + 1) + 1) + 1) + 1)) <|
    bnd (w_markText ((((k3 + 1) + 1) + 1) + 1)) fun x11 =>
    bnd (nth ((((a5.set i4.toNat (PInstr.mk k3 x7.a x7.d)).set i4.toNat (PInstr.mk x8.op (k3 + 1) x8.d)).set i4.toNat (PInstr.mk x9.op x9.a (PDat.mk ((k3 + 1) + 1) x9.d.number x9.d.text x9.d.items))).set i4.toNat (PInstr.mk x10.op x10.a (PDat.mk x10.d.kind (((k3 + 1) + 1) + 1) x10.d.text x10.d.items))) i4) fun x12 =>
    chk (I64 (((((k3 + 1) + 1) + 1) + 1) + 1)) <|
    bnd (nth (((((a5.set i4.toNat (PInstr.mk k3 x7.a x7.d)).set i4.toNat (PInstr.mk x8.op (k3 + 1) x8.d)).set i4.toNat (PInstr.mk x9.op x9.a (PDat.mk ((k3 + 1) + 1) x9.d.number x9.d.text x9.d.items))).set i4.toNat (PInstr.mk x10.op x10.a (PDat.mk x10.d.kind (((k3 + 1) + 1) + 1) x10.d.text x10.d.items))).set i4.toNat (PInstr.mk x12.op x12.a (PDat.mk x12.d.kind x12.d.number x11 x12.d.items))) i4) fun x13 =>
    bnd (w_markDatumS RF x13.d.items (((((k3 + 1) + 1) + 1) + 1) + 1)) fun x14 =>
    chk (x14.2.length = x13.d.items.length) <|
    chk (I64 (i4 + 1)) <|
    go6 (x14.1, (i4 + 1), ((((((a5.set i4.toNat (PInstr.mk k3 x7.a x7.d)).set i4.toNat (PInstr.mk x8.op (k3 + 1) x8.d)).set i4.toNat (PInstr.mk x9.op x9.a (PDat.mk ((k3 + 1) + 1) x9.d.number x9.d.text x9.d.items))).set i4.toNat (PInstr.mk x10.op x10.a (PDat.mk x10.d.kind (((k3 + 1) + 1) + 1) x10.d.text x10.d.items))).set i4.toNat (PInstr.mk x12.op x12.a (PDat.mk x12.d.kind x12.d.number x11 x12.d.items))).set i4.toNat (PInstr.mk x13.op x13.a (PDat.mk x13.d.kind x13.d.number x13.d.text x14.2))))
  else
    some (k3, a5)

def w_markInstrS_L1 (a : List PInstr) (go : (Int × Int × List PInstr) → Option (Int × List PInstr)) (v : Int × Int × List PInstr) : Option (Int × List PInstr) :=
  match v with
  | (k3, i4, a5) => w_markInstrS_L1b a go k3 i4 a5

def w_markInstrS (a : List PInstr) (k : Int) : Option (Int × List PInstr) :=
  itr (w_markInstrS_L1 a) LF (k, 0, a)

def w_markCodeS_L1b (go6 : (Int × Int × List PCode) → Option (Int × List PCode)) (k3 : Int) (i4 : Int) (a5 : List PCode) : Option (Int × List PCode) :=
  if i4 < (a5.length : Int) then
    bnd (nth a5 i4) fun x7 =>
    chk (I64 (k3 + 1)) <|
    bnd (nth (a5.set i4.toNat (PCode.mk k3 x7.slots x7.captures x7.instrs)) i4) fun x8 =>
    chk (I64 ((k3 + 1) + 1)) <|
    bnd (nth ((a5.set i4.toNat (PCode.mk k3 x7.slots x7.captures x7.instrs)).set i4.toNat (PCode.mk x8.params (k3 + 1) x8.captures x8.instrs)) i4) fun x9 =>
    chk (I64 (((k3 + 1) + 1) + 1)) <|
    bnd (nth (((a5.set i4.toNat (PCode.mk k3 x7.slots x7.captures x7.instrs)).set i4.toNat (PCode.mk x8.params (k3 + 1) x8.captures x8.instrs)).set i4.toNat (PCode.mk x9.params x9.slots ((k3 + 1) + 1) x9.instrs)) i4) fun x10 =>
    bnd (w_markInstrS x10.instrs (((k3 + 1) + 1) + 1)) fun x11 =>
    chk (x11.2.length = x10.instrs.length) <|
    chk (I64 (i4 + 1)) <|
    go6 (x11.1, (i4 + 1), ((((a5.set i4.toNat (PCode.mk k3 x7.slots x7.captures x7.instrs)).set i4.toNat (PCode.mk x8.params (k3 + 1) x8.captures x8.instrs)).set i4.toNat (PCode.mk x9.params x9.slots ((k3 + 1) + 1) x9.instrs)).set i4.toNat (PCode.mk x10.params x10.slots x10.captures x11.2)))
  else
    some (k3, a5)

def w_markCodeS_L1 (go : (Int × Int × List PCode) → Option (Int × List PCode)) (v : Int × Int × List PCode) : Option (Int × List PCode) :=
  match v with
  | (k3, i4, a5) => w_markCodeS_L1b go k3 i4 a5

def w_markCodeS (a : List PCode) (k : Int) : Option (Int × List PCode) :=
  itr w_markCodeS_L1 LF (k, 0, a)

def w_markImage (a : PImage) (k : Int) : Option (Int × List PCode) :=
  bnd (w_markCodeS a.codes k) fun x3 =>
  chk (x3.2.length = a.codes.length) <|
  some (x3.1, x3.2)

def w_FnExactStackDepths (aM : PImage) (aCode : Int) : Option Bool :=
  bnd (w_szImage aM 1048576) fun x3 =>
  if x3 < 0 then
    some true
  else
    bnd (w_toImage aM) fun x4 =>
    bnd (s_StackDepths x4 aCode) fun x5 =>
    bnd (w_toImage aM) fun x6 =>
    bnd (i_StackDepths x6 aCode) fun x7 =>
    bnd (w_eqIntS x7.1 x5.1) fun x8 =>
    if x8 = true then
      if x7.2 = x5.2 then
        bnd (w_toImage aM) fun x9 =>
        bnd (w_eqImage x6 x9) fun x10 =>
        if x10 = true then
          bnd (w_markImage x6 1) fun x11 =>
          chk (x11.2.length = x6.codes.length) <|
          if x11.1 < 0 then
            some false
          else
            bnd (w_eqIntS x7.1 x5.1) fun x12 =>
            if x12 = true then
              if x7.2 = x5.2 then
                bnd (w_markIntS x7.1 1) fun x13 =>
                chk (x13.2.length = x7.1.length) <|
                bnd (w_heldIntS x13.2 1) fun x14 =>
                if x14 < 0 then
                  some false
                else
                  if x14 = x13.1 then
                    bnd (w_toImage aM) fun x15 =>
                    bnd (i_StackDepths x15 aCode) fun x16 =>
                    bnd (w_eqIntS x16.1 x5.1) fun x17 =>
                    if x17 = true then
                      if x16.2 = x5.2 then
                        bnd (w_heldIntS x13.2 1) fun x18 =>
                        if x18 < 0 then
                          some false
                        else
                          if x18 = x13.1 then
                            some true
                          else
                            some false
                      else
                        some false
                    else
                      some false
                  else
                    some false
              else
                some false
            else
              some false
        else
          some false
      else
        some false
    else
      some false

end Go.Abs
