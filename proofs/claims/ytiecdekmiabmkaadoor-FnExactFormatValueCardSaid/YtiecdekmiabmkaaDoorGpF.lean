/-
  Programs, made by wip/gen: F
-/
import Derived.Test.YtiecdekmiabmkaaDoorLibD
import Derived.Test.YtiecdekmiabmkaaDoorLibE
import Derived.Test.YtiecdekmiabmkaaDoorGpE
import Derived.Test.YtiecdekmiabmkaaDoorLibG
set_option linter.unusedVariables false
set_option linter.unusedSimpArgs false
namespace Go.Abs
set_option linter.unusedVariables false

def i_FormatNumber (x_1 : Int) : Option (List UInt8) :=
  bnd (x_Itoa x_1) fun x2 =>
  some x2

def i_writeDatum_J2 (i_writeDatum : List UInt8 → PDat → Option (List UInt8)) (x4 : Int) (go6 : (Int × List UInt8) → Option (List UInt8)) (x7 : PDat) (out8 : List UInt8) : Option (List UInt8) :=
  bnd (i_writeDatum out8 x7) fun x9 =>
  chk (I64 (x4 + 1)) <|
  go6 ((x4 + 1), x9)

def i_writeDatum_L1b (i_writeDatum : List UInt8 → PDat → Option (List UInt8)) (d : PDat) (go6 : (Int × List UInt8) → Option (List UInt8)) (x4 : Int) (out5 : List UInt8) : Option (List UInt8) :=
  if x4 < (d.items.length : Int) then
    bnd (nth d.items x4) fun x7 =>
    if x4 > 0 then
      chk ((out5.length + ([32] : List UInt8).length) * 1 ≤ 140737488355328) <|
      i_writeDatum_J2 i_writeDatum x4 go6 x7 (out5 ++ ([32] : List UInt8))
    else
      i_writeDatum_J2 i_writeDatum x4 go6 x7 out5
  else
    chk ((out5.length + ([41] : List UInt8).length) * 1 ≤ 140737488355328) <|
    some (out5 ++ ([41] : List UInt8))

def i_writeDatum_L1 (i_writeDatum : List UInt8 → PDat → Option (List UInt8)) (d : PDat) (go : (Int × List UInt8) → Option (List UInt8)) (v : Int × List UInt8) : Option (List UInt8) :=
  match v with
  | (x4, out5) => i_writeDatum_L1b i_writeDatum d go x4 out5

def i_writeDatum_b (i_writeDatum : List UInt8 → PDat → Option (List UInt8)) (out : List UInt8) (d : PDat) : Option (List UInt8) :=
  if d.kind = 1 then
    chk ((out.length + d.text.length) * 1 ≤ 140737488355328) <|
    some (out ++ d.text)
  else
    if d.kind = 2 then
      bnd (i_FormatNumber d.number) fun x4 =>
      chk ((out.length + x4.length) * 1 ≤ 140737488355328) <|
      some (out ++ x4)
    else
      if d.kind = 3 then
        if d.number = 1 then
          chk ((out.length + ([35, 116] : List UInt8).length) * 1 ≤ 140737488355328) <|
          some (out ++ ([35, 116] : List UInt8))
        else
          chk ((out.length + ([35, 102] : List UInt8).length) * 1 ≤ 140737488355328) <|
          some (out ++ ([35, 102] : List UInt8))
      else
        if d.kind = 4 then
          chk ((out.length + ([34] : List UInt8).length) * 1 ≤ 140737488355328) <|
          chk (((out ++ ([34] : List UInt8)).length + d.text.length) * 1 ≤ 140737488355328) <|
          chk ((((out ++ ([34] : List UInt8)) ++ d.text).length + ([34] : List UInt8).length) * 1 ≤ 140737488355328) <|
          some (((out ++ ([34] : List UInt8)) ++ d.text) ++ ([34] : List UInt8))
        else
          chk ((out.length + ([40] : List UInt8).length) * 1 ≤ 140737488355328) <|
          itr (i_writeDatum_L1 i_writeDatum d) LF (0, (out ++ ([40] : List UInt8)))

def i_writeDatum : Nat → List UInt8 → PDat → Option (List UInt8)
  | 0, _, _ => none
  | n + 1, out, d => i_writeDatum_b (i_writeDatum n) out d

def i_FormatDatum (d : PDat) : Option (List UInt8) :=
  bnd (i_IsDatum d) fun x2 =>
  if x2 = true then
    bnd (i_writeDatum RF [] d) fun x3 =>
    some x3
  else
    some ([] : List UInt8)

def i_writeValue_J2 (i_writeValue : List UInt8 → PVal → List PPair → Option (List UInt8)) (pairs : List PPair) (out5 : List UInt8) (x6 : PVal) (x7 : Bool) : Option (List UInt8) :=
  if x7 = true then
    chk ((out5.length + ([32, 46, 32] : List UInt8).length) * 1 ≤ 140737488355328) <|
    bnd (i_writeValue (out5 ++ ([32, 46, 32] : List UInt8)) x6 pairs) fun x8 =>
    chk ((x8.length + ([41] : List UInt8).length) * 1 ≤ 140737488355328) <|
    some (x8 ++ ([41] : List UInt8))
  else
    chk ((out5.length + ([41] : List UInt8).length) * 1 ≤ 140737488355328) <|
    some (out5 ++ ([41] : List UInt8))

def i_writeValue_J1 (i_writeValue : List UInt8 → PVal → List PPair → Option (List UInt8)) (pairs : List PPair) (out5 : List UInt8) (x6 : PVal) : Option (List UInt8) :=
  if x6.kind = 1 then
    i_writeValue_J2 i_writeValue pairs out5 x6 false
  else
    i_writeValue_J2 i_writeValue pairs out5 x6 (!decide (x6.kind = 7))

def i_writeValue_L3b (i_writeValue : List UInt8 → PVal → List PPair → Option (List UInt8)) (pairs : List PPair) (go7 : (List UInt8 × PVal) → Option (List UInt8)) (out5 : List UInt8) (x6 : PVal) : Option (List UInt8) :=
  if (out5.length : Int) < 120 then
    bnd (nth pairs x6.number) fun x8 =>
    bnd (i_writeValue out5 x8.h pairs) fun x9 =>
    if x8.t.kind = 7 then
      chk ((x9.length + ([32] : List UInt8).length) * 1 ≤ 140737488355328) <|
      go7 ((x9 ++ ([32] : List UInt8)), x8.t)
    else
      i_writeValue_J1 i_writeValue pairs x9 x8.t
  else
    i_writeValue_J1 i_writeValue pairs out5 x6

def i_writeValue_L3 (i_writeValue : List UInt8 → PVal → List PPair → Option (List UInt8)) (pairs : List PPair) (go : (List UInt8 × PVal) → Option (List UInt8)) (v : List UInt8 × PVal) : Option (List UInt8) :=
  match v with
  | (out5, x6) => i_writeValue_L3b i_writeValue pairs go out5 x6

def i_writeValue_b (i_writeValue : List UInt8 → PVal → List PPair → Option (List UInt8)) (out : List UInt8) (x_1 : PVal) (pairs : List PPair) : Option (List UInt8) :=
  if (out.length : Int) ≥ 120 then
    some out
  else
    if x_1.kind = 0 then
      chk ((out.length + ([35, 118, 111, 105, 100] : List UInt8).length) * 1 ≤ 140737488355328) <|
      some (out ++ ([35, 118, 111, 105, 100] : List UInt8))
    else
      if x_1.kind = 1 then
        chk ((out.length + ([40, 41] : List UInt8).length) * 1 ≤ 140737488355328) <|
        some (out ++ ([40, 41] : List UInt8))
      else
        if x_1.kind = 2 then
          if x_1.number = 1 then
            chk ((out.length + ([35, 116] : List UInt8).length) * 1 ≤ 140737488355328) <|
            some (out ++ ([35, 116] : List UInt8))
          else
            chk ((out.length + ([35, 102] : List UInt8).length) * 1 ≤ 140737488355328) <|
            some (out ++ ([35, 102] : List UInt8))
        else
          if x_1.kind = 3 then
            bnd (i_FormatNumber x_1.number) fun x5 =>
            chk ((out.length + x5.length) * 1 ≤ 140737488355328) <|
            some (out ++ x5)
          else
            if x_1.kind = 4 then
              chk ((out.length + x_1.text.length) * 1 ≤ 140737488355328) <|
              some (out ++ x_1.text)
            else
              if x_1.kind = 5 then
                chk ((out.length + ([34] : List UInt8).length) * 1 ≤ 140737488355328) <|
                chk (((out ++ ([34] : List UInt8)).length + x_1.text.length) * 1 ≤ 140737488355328) <|
                chk ((((out ++ ([34] : List UInt8)) ++ x_1.text).length + ([34] : List UInt8).length) * 1 ≤ 140737488355328) <|
                some (((out ++ ([34] : List UInt8)) ++ x_1.text) ++ ([34] : List UInt8))
              else
                if x_1.kind = 7 then
                  chk ((out.length + ([40] : List UInt8).length) * 1 ≤ 140737488355328) <|
                  itr (i_writeValue_L3 i_writeValue pairs) LF ((out ++ ([40] : List UInt8)), x_1)
                else
                  chk ((out.length + ([35, 112, 114, 111, 99, 101, 100, 117, 114, 101] : List UInt8).length) * 1 ≤ 140737488355328) <|
                  some (out ++ ([35, 112, 114, 111, 99, 101, 100, 117, 114, 101] : List UInt8))

def i_writeValue : Nat → List UInt8 → PVal → List PPair → Option (List UInt8)
  | 0, _, _, _ => none
  | n + 1, out, x_1, pairs => i_writeValue_b (i_writeValue n) out x_1 pairs

def i_textOf (x_1 : PVal) (pairs : List PPair) : Option (List UInt8) :=
  bnd (i_writeValue RF [] x_1 pairs) fun x3 =>
  chk (0 ≤ (min (x3.length : Int) 120) ∧ (min (x3.length : Int) 120) ≤ x3.length) <|
  some (x3.take (min (x3.length : Int) 120).toNat)

def i_FormatValue (x_1 : PVal) (pairs : List PPair) : Option (List UInt8) :=
  bnd (i_IsValue x_1 pairs) fun x3 =>
  if x3 = true then
    bnd (i_textOf x_1 pairs) fun x4 =>
    some x4
  else
    some ([] : List UInt8)

end Go.Abs
