/-
  Programs, made by wip/gen: E
-/
import Derived.Test.YtmgigglpdhoneaaDoorGpD
set_option linter.unusedVariables false
set_option linter.unusedSimpArgs false
namespace Go.Abs
set_option linter.unusedVariables false

def s_l8Quote_L1b (s_l8Quote : PDat → List PPair → Option (PVal × List PPair)) (d : PDat) (go7 : (Int × List PPair × PVal) → Option (PVal × List PPair)) (i4 : Int) (pairs5 : List PPair) (tail6 : PVal) : Option (PVal × List PPair) :=
  if i4 ≥ 0 then
    bnd (nth d.items i4) fun x8 =>
    bnd (s_l8Quote x8 pairs5) fun x9 =>
    chk ((x9.2.length + ([(PPair.mk x9.1 tail6)] : List PPair).length) * 64 ≤ 140737488355328) <|
    chk (I64 (((x9.2 ++ ([(PPair.mk x9.1 tail6)] : List PPair)).length : Int) - 1)) <|
    chk (I64 (i4 - 1)) <|
    go7 ((i4 - 1), (x9.2 ++ ([(PPair.mk x9.1 tail6)] : List PPair)), (PVal.mk 7 (((x9.2 ++ ([(PPair.mk x9.1 tail6)] : List PPair)).length : Int) - 1) ([] : List UInt8)))
  else
    some (tail6, pairs5)

def s_l8Quote_L1 (s_l8Quote : PDat → List PPair → Option (PVal × List PPair)) (d : PDat) (go : (Int × List PPair × PVal) → Option (PVal × List PPair)) (v : Int × List PPair × PVal) : Option (PVal × List PPair) :=
  match v with
  | (i4, pairs5, tail6) => s_l8Quote_L1b s_l8Quote d go i4 pairs5 tail6

def s_l8Quote_b (s_l8Quote : PDat → List PPair → Option (PVal × List PPair)) (d : PDat) (pairs : List PPair) : Option (PVal × List PPair) :=
  if d.kind = 1 then
    some ((PVal.mk 4 0 d.text), pairs)
  else
    if d.kind = 2 then
      some ((PVal.mk 3 d.number ([] : List UInt8)), pairs)
    else
      if d.kind = 3 then
        some ((PVal.mk 2 d.number ([] : List UInt8)), pairs)
      else
        if d.kind = 4 then
          some ((PVal.mk 5 0 d.text), pairs)
        else
          chk (I64 ((d.items.length : Int) - 1)) <|
          itr (s_l8Quote_L1 s_l8Quote d) LF (((d.items.length : Int) - 1), pairs, (PVal.mk 1 0 ([] : List UInt8)))

def s_l8Quote : Nat → PDat → List PPair → Option (PVal × List PPair)
  | 0, _, _ => none
  | n + 1, d, pairs => s_l8Quote_b (s_l8Quote n) d pairs

def s_ValueOf (d : PDat) (pairs : List PPair) : Option (PVal × List PPair × Bool) :=
  chk ((([] : List PPair).length + pairs.length) * 64 ≤ 140737488355328) <|
  bnd (s_IsDatum d) fun x3 =>
  if x3 = true then
    bnd (s_ArePairs pairs) fun x4 =>
    if x4 = true then
      bnd (s_l8Cells RF d) fun x5 =>
      chk (I64 ((pairs.length : Int) + x5)) <|
      if ((pairs.length : Int) + x5) > 2000 then
        some ((PVal.mk 0 0 ([] : List UInt8)), (([] : List PPair) ++ pairs), false)
      else
        bnd (s_l8Quote RF d (([] : List PPair) ++ pairs)) fun x6 =>
        some (x6.1, x6.2, true)
    else
      some ((PVal.mk 0 0 ([] : List UInt8)), (([] : List PPair) ++ pairs), false)
  else
    some ((PVal.mk 0 0 ([] : List UInt8)), (([] : List PPair) ++ pairs), false)

def i_valueOf_L1b (i_valueOf : PDat → List PPair → Option (PVal × List PPair)) (d : PDat) (go7 : (Int × List PPair × PVal) → Option (PVal × List PPair)) (i4 : Int) (pairs5 : List PPair) (list6 : PVal) : Option (PVal × List PPair) :=
  if i4 ≥ 0 then
    bnd (nth d.items i4) fun x8 =>
    bnd (i_valueOf x8 pairs5) fun x9 =>
    chk ((x9.2.length + ([(PPair.mk x9.1 list6)] : List PPair).length) * 64 ≤ 140737488355328) <|
    chk (I64 (((x9.2 ++ ([(PPair.mk x9.1 list6)] : List PPair)).length : Int) - 1)) <|
    chk (I64 (i4 - 1)) <|
    go7 ((i4 - 1), (x9.2 ++ ([(PPair.mk x9.1 list6)] : List PPair)), (PVal.mk 7 (((x9.2 ++ ([(PPair.mk x9.1 list6)] : List PPair)).length : Int) - 1) ([] : List UInt8)))
  else
    some (list6, pairs5)

def i_valueOf_L1 (i_valueOf : PDat → List PPair → Option (PVal × List PPair)) (d : PDat) (go : (Int × List PPair × PVal) → Option (PVal × List PPair)) (v : Int × List PPair × PVal) : Option (PVal × List PPair) :=
  match v with
  | (i4, pairs5, list6) => i_valueOf_L1b i_valueOf d go i4 pairs5 list6

def i_valueOf_b (i_valueOf : PDat → List PPair → Option (PVal × List PPair)) (d : PDat) (pairs : List PPair) : Option (PVal × List PPair) :=
  if d.kind = 1 then
    some ((PVal.mk 4 0 d.text), pairs)
  else
    if d.kind = 2 then
      some ((PVal.mk 3 d.number ([] : List UInt8)), pairs)
    else
      if d.kind = 3 then
        some ((PVal.mk 2 d.number ([] : List UInt8)), pairs)
      else
        if d.kind = 4 then
          some ((PVal.mk 5 0 d.text), pairs)
        else
          chk (I64 ((d.items.length : Int) - 1)) <|
          itr (i_valueOf_L1 i_valueOf d) LF (((d.items.length : Int) - 1), pairs, (PVal.mk 1 0 ([] : List UInt8)))

def i_valueOf : Nat → PDat → List PPair → Option (PVal × List PPair)
  | 0, _, _ => none
  | n + 1, d, pairs => i_valueOf_b (i_valueOf n) d pairs

def i_ValueOf (d : PDat) (pairs : List PPair) : Option (PVal × List PPair × Bool) :=
  chk (pairs.length * 64 ≤ 140737488355328) <|
  bnd (i_IsDatum d) fun x3 =>
  if x3 = true then
    bnd (i_ArePairs pairs) fun x4 =>
    if x4 = true then
      bnd (i_itemsIn RF d) fun x5 =>
      chk (I64 ((pairs.length : Int) + x5)) <|
      if ((pairs.length : Int) + x5) > 2000 then
        some ((PVal.mk 0 0 ([] : List UInt8)), pairs, false)
      else
        bnd (i_valueOf RF d pairs) fun x6 =>
        some (x6.1, x6.2, true)
    else
      some ((PVal.mk 0 0 ([] : List UInt8)), pairs, false)
  else
    some ((PVal.mk 0 0 ([] : List UInt8)), pairs, false)

def w_FnExactIsImage (aM : PImage) (aCaptures : Int) : Option Bool :=
  bnd (w_szImage aM 1048576) fun x3 =>
  if x3 < 0 then
    some true
  else
    bnd (w_toImage aM) fun x4 =>
    bnd (s_IsImage x4 aCaptures) fun x5 =>
    bnd (w_toImage aM) fun x6 =>
    bnd (i_IsImage x6 aCaptures) fun x7 =>
    if x7 = x5 then
      bnd (w_toImage aM) fun x8 =>
      bnd (w_eqImage x6 x8) fun x9 =>
      if x9 = true then
        some true
      else
        some false
    else
      some false

def w_markDatumS_L1b (w_markDatumS : List PDat → Int → Option (Int × List PDat)) (go7 : (Int × Int × List PDat) → Option (Int × List PDat)) (k4 : Int) (i5 : Int) (a6 : List PDat) : Option (Int × List PDat) :=
  if i5 < (a6.length : Int) then
    bnd (nth a6 i5) fun x8 =>
    chk (I64 (k4 + 1)) <|
    bnd (nth (a6.set i5.toNat (PDat.mk k4 x8.number x8.text x8.items)) i5) fun x9 =>
    chk (I64 ((k4 + 1) + 1)) <|
    bnd (w_markText ((k4 + 1) + 1)) fun x10 =>
    bnd (nth ((a6.set i5.toNat (PDat.mk k4 x8.number x8.text x8.items)).set i5.toNat (PDat.mk x9.kind (k4 + 1) x9.text x9.items)) i5) fun x11 =>
    chk (I64 (((k4 + 1) + 1) + 1)) <|
    bnd (nth (((a6.set i5.toNat (PDat.mk k4 x8.number x8.text x8.items)).set i5.toNat (PDat.mk x9.kind (k4 + 1) x9.text x9.items)).set i5.toNat (PDat.mk x11.kind x11.number x10 x11.items)) i5) fun x12 =>
    bnd (w_markDatumS x12.items (((k4 + 1) + 1) + 1)) fun x13 =>
    chk (x13.2.length = x12.items.length) <|
    chk (I64 (i5 + 1)) <|
    go7 (x13.1, (i5 + 1), ((((a6.set i5.toNat (PDat.mk k4 x8.number x8.text x8.items)).set i5.toNat (PDat.mk x9.kind (k4 + 1) x9.text x9.items)).set i5.toNat (PDat.mk x11.kind x11.number x10 x11.items)).set i5.toNat (PDat.mk x12.kind x12.number x12.text x13.2)))
  else
    some (k4, a6)

def w_markDatumS_L1 (w_markDatumS : List PDat → Int → Option (Int × List PDat)) (go : (Int × Int × List PDat) → Option (Int × List PDat)) (v : Int × Int × List PDat) : Option (Int × List PDat) :=
  match v with
  | (k4, i5, a6) => w_markDatumS_L1b w_markDatumS go k4 i5 a6

def w_markDatumS_b (w_markDatumS : List PDat → Int → Option (Int × List PDat)) (a : List PDat) (k : Int) : Option (Int × List PDat) :=
  itr (w_markDatumS_L1 w_markDatumS) LF (k, 0, a)

def w_markDatumS : Nat → List PDat → Int → Option (Int × List PDat)
  | 0, _, _ => none
  | n + 1, a, k => w_markDatumS_b (w_markDatumS n) a k

def w_markInstrS_L1b (a : List PInstr) (go6 : (Int × Int × List PInstr) → Option (Int × List PInstr)) (k3 : Int) (i4 : Int) (a5 : List PInstr) : Option (Int × List PInstr) :=
  if i4 < (a5.length : Int) then
    bnd (nth a5 i4) fun x7 =>
    chk (I64 (k3 + 1)) <|
    bnd (nth (a5.set i4.toNat (PInstr.mk k3 x7.a x7.d)) i4) fun x8 =>
    chk (I64 ((k3 + 1) + 1)) <|
    bnd (nth ((a5.set i4.toNat (PInstr.mk k3 x7.a x7.d)).set i4.toNat (PInstr.mk x8.op (k3 + 1) x8.d)) i4) fun x9 =>
    chk (I64 (((k3 + 1) + 1) + 1)) <|
    bnd (nth (((a5.set i4.toNat (PInstr.mk k3 x7.a x7.d)).set i4.toNat (PInstr.mk x8.op (k3 + 1) x8.d)).set i4.toNat (PInstr.mk x9.op x9.a (PDat.mk ((k3 + 1) + 1) x9.d.number x9.d.text x9.d.items))) i4) fun x10 =>
    chk (I64 ((((k3 + 1) + 1) + 1) + 1)) <|
    bnd (w_markText ((((k3 + 1) + 1) + 1) + 1)) fun x11 =>
    bnd (nth ((((a5.set i4.toNat (PInstr.mk k3 x7.a x7.d)).set i4.toNat (PInstr.mk x8.op (k3 + 1) x8.d)).set i4.toNat (PInstr.mk x9.op x9.a (PDat.mk ((k3 + 1) + 1) x9.d.number x9.d.text x9.d.items))).set i4.toNat (PInstr.mk x10.op x10.a (PDat.mk x10.d.kind (((k3 + 1) + 1) + 1) x10.d.text x10.d.items))) i4) fun x12 =>
    chk (I64 (((((k3 + 1) + 1) + 1) + 1) + 1)) <|
    bnd (nth (((((a5.set i4.toNat (PInstr.mk k3 x7.a x7.d)).set i4.toNat (PInstr.mk x8.op (k3 + 1) x8.d)).set i4.toNat (PInstr.mk x9.op x9.a (PDat.mk ((k3 + 1) + 1) x9.d.number x9.d.text x9.d.items))).set i4.toNat (PInstr.mk x10.op x10.a (PDat.mk x10.d.kind (((k3 + 1) + 1) + 1) x10.d.text x10.d.items))).set i4.toNat (PInstr.mk x12.op x12.a (PDat.mk x12.d.kind x12.d.number x11 x12.d.items))) i4) fun x13 =>
    bnd (w_markDatumS RF x13.d.items (((((k3 + 1) + 1) + 1) + 1) + 1)) fun x14 =>
    chk (x14.2.length = x13.d.items.length) <|
    chk (I64 (i4 + 1)) <|
    go6 (x14.1, (i4 + 1), ((((((a5.set i4.toNat (PInstr.mk k3 x7.a x7.d)).set i4.toNat (PInstr.mk x8.op (k3 + 1) x8.d)).set i4.toNat (PInstr.mk x9.op x9.a (PDat.mk ((k3 + 1) + 1) x9.d.number x9.d.text x9.d.items))).set i4.toNat (PInstr.mk x10.op x10.a (PDat.mk x10.d.kind (((k3 + 1) + 1) + 1) x10.d.text x10.d.items))).set i4.toNat (PInstr.mk x12.op x12.a (PDat.mk x12.d.kind x12.d.number x11 x12.d.items))).set i4.toNat (PInstr.mk x13.op x13.a (PDat.mk x13.d.kind x13.d.number x13.d.text x14.2))))
  else
    some (k3, a5)

def w_markInstrS_L1 (a : List PInstr) (go : (Int × Int × List PInstr) → Option (Int × List PInstr)) (v : Int × Int × List PInstr) : Option (Int × List PInstr) :=
  match v with
  | (k3, i4, a5) => w_markInstrS_L1b a go k3 i4 a5

def w_markInstrS (a : List PInstr) (k : Int) : Option (Int × List PInstr) :=
  itr (w_markInstrS_L1 a) LF (k, 0, a)

def w_markCodeS_L1b (go6 : (Int × Int × List PCode) → Option (Int × List PCode)) (k3 : Int) (i4 : Int) (a5 : List PCode) : Option (Int × List PCode) :=
  if i4 < (a5.length : Int) then
    bnd (nth a5 i4) fun x7 =>
    chk (I64 (k3 + 1)) <|
    bnd (nth (a5.set i4.toNat (PCode.mk k3 x7.slots x7.captures x7.instrs)) i4) fun x8 =>
    chk (I64 ((k3 + 1) + 1)) <|
    bnd (nth ((a5.set i4.toNat (PCode.mk k3 x7.slots x7.captures x7.instrs)).set i4.toNat (PCode.mk x8.params (k3 + 1) x8.captures x8.instrs)) i4) fun x9 =>
    chk (I64 (((k3 + 1) + 1) + 1)) <|
    bnd (nth (((a5.set i4.toNat (PCode.mk k3 x7.slots x7.captures x7.instrs)).set i4.toNat (PCode.mk x8.params (k3 + 1) x8.captures x8.instrs)).set i4.toNat (PCode.mk x9.params x9.slots ((k3 + 1) + 1) x9.instrs)) i4) fun x10 =>
    bnd (w_markInstrS x10.instrs (((k3 + 1) + 1) + 1)) fun x11 =>
    chk (x11.2.length = x10.instrs.length) <|
    chk (I64 (i4 + 1)) <|
    go6 (x11.1, (i4 + 1), ((((a5.set i4.toNat (PCode.mk k3 x7.slots x7.captures x7.instrs)).set i4.toNat (PCode.mk x8.params (k3 + 1) x8.captures x8.instrs)).set i4.toNat (PCode.mk x9.params x9.slots ((k3 + 1) + 1) x9.instrs)).set i4.toNat (PCode.mk x10.params x10.slots x10.captures x11.2)))
  else
    some (k3, a5)

def w_markCodeS_L1 (go : (Int × Int × List PCode) → Option (Int × List PCode)) (v : Int × Int × List PCode) : Option (Int × List PCode) :=
  match v with
  | (k3, i4, a5) => w_markCodeS_L1b go k3 i4 a5

def w_markCodeS (a : List PCode) (k : Int) : Option (Int × List PCode) :=
  itr w_markCodeS_L1 LF (k, 0, a)

def w_markImage (a : PImage) (k : Int) : Option (Int × List PCode) :=
  bnd (w_markCodeS a.codes k) fun x3 =>
  chk (x3.2.length = a.codes.length) <|
  some (x3.1, x3.2)

def w_FnExactStackDepths (aM : PImage) (aCode : Int) : Option Bool :=
  bnd (w_szImage aM 1048576) fun x3 =>
  if x3 < 0 then
    some true
  else
    bnd (w_toImage aM) fun x4 =>
    bnd (s_StackDepths x4 aCode) fun x5 =>
    bnd (w_toImage aM) fun x6 =>
    bnd (i_StackDepths x6 aCode) fun x7 =>
    bnd (w_eqIntS x7.1 x5.1) fun x8 =>
    if x8 = true then
      if x7.2 = x5.2 then
        bnd (w_toImage aM) fun x9 =>
        bnd (w_eqImage x6 x9) fun x10 =>
        if x10 = true then
          bnd (w_markImage x6 1) fun x11 =>
          chk (x11.2.length = x6.codes.length) <|
          if x11.1 < 0 then
            some false
          else
            bnd (w_eqIntS x7.1 x5.1) fun x12 =>
            if x12 = true then
              if x7.2 = x5.2 then
                bnd (w_markIntS x7.1 1) fun x13 =>
                chk (x13.2.length = x7.1.length) <|
                bnd (w_heldIntS x13.2 1) fun x14 =>
                if x14 < 0 then
                  some false
                else
                  if x14 = x13.1 then
                    bnd (w_toImage aM) fun x15 =>
                    bnd (i_StackDepths x15 aCode) fun x16 =>
                    bnd (w_eqIntS x16.1 x5.1) fun x17 =>
                    if x17 = true then
                      if x16.2 = x5.2 then
                        bnd (w_heldIntS x13.2 1) fun x18 =>
                        if x18 < 0 then
                          some false
                        else
                          if x18 = x13.1 then
                            some true
                          else
                            some false
                      else
                        some false
                    else
                      some false
                  else
                    some false
              else
                some false
            else
              some false
        else
          some false
      else
        some false
    else
      some false

def w_markDatum (a : PDat) (k : Int) : Option (Int × List PDat) :=
  bnd (w_markDatumS RF a.items k) fun x3 =>
  chk (x3.2.length = a.items.length) <|
  some (x3.1, x3.2)

def w_FnExactValueOf (aD : PDat) (aPairs : List PPair) : Option Bool :=
  bnd (w_szDatum RF aD 1048576) fun x3 =>
  if x3 < 0 then
    some true
  else
    bnd (w_szPairS aPairs x3) fun x4 =>
    if x4 < 0 then
      some true
    else
      bnd (w_toDatum RF aD) fun x5 =>
      bnd (w_toPairS aPairs) fun x6 =>
      bnd (s_ValueOf x5 x6) fun x7 =>
      bnd (w_toDatum RF aD) fun x8 =>
      bnd (w_toPairS aPairs) fun x9 =>
      bnd (i_ValueOf x8 x9) fun x10 =>
      bnd (w_eqValue x10.1 x7.1) fun x11 =>
      if x11 = true then
        bnd (w_eqPairS x10.2.1 x7.2.1) fun x12 =>
        if x12 = true then
          if x10.2.2 = x7.2.2 then
            bnd (w_toDatum RF aD) fun x13 =>
            bnd (w_eqDatum RF x8 x13) fun x14 =>
            if x14 = true then
              bnd (w_toPairS aPairs) fun x15 =>
              bnd (w_eqPairS x9 x15) fun x16 =>
              if x16 = true then
                bnd (w_markDatum x8 1) fun x17 =>
                chk (x17.2.length = x8.items.length) <|
                bnd (w_markPairS x9 x17.1) fun x18 =>
                chk (x18.2.length = x9.length) <|
                if x18.1 < 0 then
                  some false
                else
                  bnd (w_eqValue x10.1 x7.1) fun x19 =>
                  if x19 = true then
                    bnd (w_eqPairS x10.2.1 x7.2.1) fun x20 =>
                    if x20 = true then
                      if x10.2.2 = x7.2.2 then
                        bnd (w_markPairS x10.2.1 1) fun x21 =>
                        chk (x21.2.length = x10.2.1.length) <|
                        bnd (w_heldPairS x21.2 1) fun x22 =>
                        if x22 < 0 then
                          some false
                        else
                          if x22 = x21.1 then
                            bnd (w_toDatum RF aD) fun x23 =>
                            bnd (w_toPairS aPairs) fun x24 =>
                            bnd (i_ValueOf x23 x24) fun x25 =>
                            bnd (w_eqValue x25.1 x7.1) fun x26 =>
                            if x26 = true then
                              bnd (w_eqPairS x25.2.1 x7.2.1) fun x27 =>
                              if x27 = true then
                                if x25.2.2 = x7.2.2 then
                                  bnd (w_heldPairS x21.2 1) fun x28 =>
                                  if x28 < 0 then
                                    some false
                                  else
                                    if x28 = x21.1 then
                                      some true
                                    else
                                      some false
                                else
                                  some false
                              else
                                some false
                            else
                              some false
                          else
                            some false
                      else
                        some false
                    else
                      some false
                  else
                    some false
              else
                some false
            else
              some false
          else
            some false
        else
          some false
      else
        some false

def w_FnExactEqualImages (aA : PImage) (aB : PImage) : Option Bool :=
  bnd (w_szImage aA 1048576) fun x3 =>
  if x3 < 0 then
    some true
  else
    bnd (w_szImage aB x3) fun x4 =>
    if x4 < 0 then
      some true
    else
      bnd (w_toImage aA) fun x5 =>
      bnd (w_toImage aB) fun x6 =>
      bnd (s_EqualImages x5 x6) fun x7 =>
      bnd (w_toImage aA) fun x8 =>
      bnd (w_toImage aB) fun x9 =>
      bnd (i_EqualImages x8 x9) fun x10 =>
      if x10 = x7 then
        bnd (w_toImage aA) fun x11 =>
        bnd (w_eqImage x8 x11) fun x12 =>
        if x12 = true then
          bnd (w_toImage aB) fun x13 =>
          bnd (w_eqImage x9 x13) fun x14 =>
          if x14 = true then
            some true
          else
            some false
        else
          some false
      else
        some false

def w_szObject (a : PObj) (left : Int) : Option Int :=
  chk (I64 (left - (a.name.length : Int))) <|
  if (left - (a.name.length : Int)) < 0 then
    some (-1)
  else
    bnd (w_szIntS a.defines (left - (a.name.length : Int))) fun x3 =>
    if x3 < 0 then
      some (-1)
    else
      bnd (w_szIntS a.uses x3) fun x4 =>
      if x4 < 0 then
        some (-1)
      else
        bnd (w_szImage a.image x4) fun x5 =>
        if x5 < 0 then
          some (-1)
        else
          some x5

def s_l2Ints (list : List Int) : Option (List Int) :=
  chk ((([] : List Int).length + list.length) * 8 ≤ 140737488355328) <|
  some (([] : List Int) ++ list)

def s_IsObject (o : PObj) : Option Bool :=
  bnd (s_l2Ints o.defines) fun x2 =>
  chk ((x2.length + o.uses.length) * 8 ≤ 140737488355328) <|
  bnd (s_l7Name o.name) fun x3 =>
  if x3 = true then
    bnd (s_l5Unique (x2 ++ o.uses)) fun x4 =>
    if x4 = true then
      bnd (s_IsImage o.image ((x2 ++ o.uses).length : Int)) fun x5 =>
      some x5
    else
      some false
  else
    some false

def w_toObject (a : PObj) : Option PObj :=
  bnd (w_toIntS a.defines) fun x2 =>
  bnd (w_toIntS a.uses) fun x3 =>
  bnd (w_toImage a.image) fun x4 =>
  some (PObj.mk a.name x2 x3 x4)

def i_differentVariables_L2b (x2 : Int) (go4 : (Int × (List (Int × Int))) → Option Bool) (x5 : List Int) (go8 : (Int × (List (Int × Int))) → Option Bool) (x6 : Int) (seen7 : List (Int × Int)) : Option Bool :=
  if x6 < (x5.length : Int) then
    bnd (nth x5 x6) fun x9 =>
    if x9 < 0 then
      some false
    else
      if x9 > 99999 then
        some false
      else
        if (mget seen7 x9) = 1 then
          some false
        else
          chk (I64 (x6 + 1)) <|
          go8 ((x6 + 1), (mput seen7 x9 1))
  else
    chk (I64 (x2 + 1)) <|
    go4 ((x2 + 1), seen7)

def i_differentVariables_L2 (x2 : Int) (go4 : (Int × (List (Int × Int))) → Option Bool) (x5 : List Int) (go : (Int × (List (Int × Int))) → Option Bool) (v : Int × (List (Int × Int))) : Option Bool :=
  match v with
  | (x6, seen7) => i_differentVariables_L2b x2 go4 x5 go x6 seen7

def i_differentVariables_L1b (lists : List (List Int)) (go4 : (Int × (List (Int × Int))) → Option Bool) (x2 : Int) (seen3 : List (Int × Int)) : Option Bool :=
  if x2 < (lists.length : Int) then
    bnd (nth lists x2) fun x5 =>
    itr (i_differentVariables_L2 x2 go4 x5) LF (0, seen3)
  else
    some true

def i_differentVariables_L1 (lists : List (List Int)) (go : (Int × (List (Int × Int))) → Option Bool) (v : Int × (List (Int × Int))) : Option Bool :=
  match v with
  | (x2, seen3) => i_differentVariables_L1b lists go x2 seen3

def i_differentVariables (lists : List (List Int)) : Option Bool :=
  itr (i_differentVariables_L1 lists) LF (0, ([] : List (Int × Int)))

def i_IsObject (o : PObj) : Option Bool :=
  bnd (i_isShortName o.name) fun x2 =>
  if x2 = true then
    bnd (i_differentVariables ([o.defines, o.uses] : List (List Int))) fun x3 =>
    if x3 = true then
      chk (I64 ((o.defines.length : Int) + (o.uses.length : Int))) <|
      bnd (i_IsImage o.image ((o.defines.length : Int) + (o.uses.length : Int))) fun x4 =>
      some x4
    else
      some false
  else
    some false

def w_eqObject (a : PObj) (b : PObj) : Option Bool :=
  if a.name = b.name then
    bnd (w_eqIntS a.defines b.defines) fun x3 =>
    if x3 = true then
      bnd (w_eqIntS a.uses b.uses) fun x4 =>
      if x4 = true then
        bnd (w_eqImage a.image b.image) fun x5 =>
        if x5 = true then
          some true
        else
          some false
      else
        some false
    else
      some false
  else
    some false

def w_FnExactIsObject (aO : PObj) : Option Bool :=
  bnd (w_szObject aO 1048576) fun x2 =>
  if x2 < 0 then
    some true
  else
    bnd (w_toObject aO) fun x3 =>
    bnd (s_IsObject x3) fun x4 =>
    bnd (w_toObject aO) fun x5 =>
    bnd (i_IsObject x5) fun x6 =>
    if x6 = x4 then
      bnd (w_toObject aO) fun x7 =>
      bnd (w_eqObject x5 x7) fun x8 =>
      if x8 = true then
        some true
      else
        some false
    else
      some false

end Go.Abs
