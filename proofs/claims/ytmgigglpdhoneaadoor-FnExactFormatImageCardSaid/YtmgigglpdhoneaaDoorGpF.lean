/-
  Programs, made by wip/gen: F
-/
import Derived.Test.YtmgigglpdhoneaaDoorLibD
import Derived.Test.YtmgigglpdhoneaaDoorLibE
import Derived.Test.YtmgigglpdhoneaaDoorGpE
import Derived.Test.YtmgigglpdhoneaaDoorLibG
set_option linter.unusedVariables false
set_option linter.unusedSimpArgs false
namespace Go.Abs
set_option linter.unusedVariables false

def i_FormatNumber (x_1 : Int) : Option (List UInt8) :=
  bnd (x_Itoa x_1) fun x2 =>
  some x2

def i_writeDatum_J2 (i_writeDatum : List UInt8 → PDat → Option (List UInt8)) (x4 : Int) (go6 : (Int × List UInt8) → Option (List UInt8)) (x7 : PDat) (out8 : List UInt8) : Option (List UInt8) :=
  bnd (i_writeDatum out8 x7) fun x9 =>
  chk (I64 (x4 + 1)) <|
  go6 ((x4 + 1), x9)

def i_writeDatum_L1b (i_writeDatum : List UInt8 → PDat → Option (List UInt8)) (d : PDat) (go6 : (Int × List UInt8) → Option (List UInt8)) (x4 : Int) (out5 : List UInt8) : Option (List UInt8) :=
  if x4 < (d.items.length : Int) then
    bnd (nth d.items x4) fun x7 =>
    if x4 > 0 then
      chk ((out5.length + ([32] : List UInt8).length) * 1 ≤ 140737488355328) <|
      i_writeDatum_J2 i_writeDatum x4 go6 x7 (out5 ++ ([32] : List UInt8))
    else
      i_writeDatum_J2 i_writeDatum x4 go6 x7 out5
  else
    chk ((out5.length + ([41] : List UInt8).length) * 1 ≤ 140737488355328) <|
    some (out5 ++ ([41] : List UInt8))

def i_writeDatum_L1 (i_writeDatum : List UInt8 → PDat → Option (List UInt8)) (d : PDat) (go : (Int × List UInt8) → Option (List UInt8)) (v : Int × List UInt8) : Option (List UInt8) :=
  match v with
  | (x4, out5) => i_writeDatum_L1b i_writeDatum d go x4 out5

def i_writeDatum_b (i_writeDatum : List UInt8 → PDat → Option (List UInt8)) (out : List UInt8) (d : PDat) : Option (List UInt8) :=
  if d.kind = 1 then
    chk ((out.length + d.text.length) * 1 ≤ 140737488355328) <|
    some (out ++ d.text)
  else
    if d.kind = 2 then
      bnd (i_FormatNumber d.number) fun x4 =>
      chk ((out.length + x4.length) * 1 ≤ 140737488355328) <|
      some (out ++ x4)
    else
      if d.kind = 3 then
        if d.number = 1 then
          chk ((out.length + ([35, 116] : List UInt8).length) * 1 ≤ 140737488355328) <|
          some (out ++ ([35, 116] : List UInt8))
        else
          chk ((out.length + ([35, 102] : List UInt8).length) * 1 ≤ 140737488355328) <|
          some (out ++ ([35, 102] : List UInt8))
      else
        if d.kind = 4 then
          chk ((out.length + ([34] : List UInt8).length) * 1 ≤ 140737488355328) <|
          chk (((out ++ ([34] : List UInt8)).length + d.text.length) * 1 ≤ 140737488355328) <|
          chk ((((out ++ ([34] : List UInt8)) ++ d.text).length + ([34] : List UInt8).length) * 1 ≤ 140737488355328) <|
          some (((out ++ ([34] : List UInt8)) ++ d.text) ++ ([34] : List UInt8))
        else
          chk ((out.length + ([40] : List UInt8).length) * 1 ≤ 140737488355328) <|
          itr (i_writeDatum_L1 i_writeDatum d) LF (0, (out ++ ([40] : List UInt8)))

def i_writeDatum : Nat → List UInt8 → PDat → Option (List UInt8)
  | 0, _, _ => none
  | n + 1, out, d => i_writeDatum_b (i_writeDatum n) out d

def i_FormatDatum (d : PDat) : Option (List UInt8) :=
  bnd (i_IsDatum d) fun x2 =>
  if x2 = true then
    bnd (i_writeDatum RF [] d) fun x3 =>
    some x3
  else
    some ([] : List UInt8)

def i_OpName (op : Int) : Option (List UInt8) :=
  if op < 1 then
    some ([] : List UInt8)
  else
    if op > 20 then
      some ([] : List UInt8)
    else
      chk (I64 (op - 1)) <|
      bnd (nth x_opNames (op - 1)) fun x2 =>
      some x2

def i_FormatInstr (x_1 : PInstr) : Option (List UInt8) :=
  bnd (i_instrOk x_1) fun x2 =>
  if x2 = true then
    if x_1.op = 1 then
      bnd (i_OpName x_1.op) fun x3 =>
      chk (x3.length + ([32] : List UInt8).length ≤ 9223372036854775807) <|
      bnd (i_FormatDatum x_1.d) fun x4 =>
      chk ((x3 ++ ([32] : List UInt8)).length + x4.length ≤ 9223372036854775807) <|
      some ((x3 ++ ([32] : List UInt8)) ++ x4)
    else
      if x_1.op = 14 then
        bnd (i_OpName x_1.op) fun x3 =>
        some x3
      else
        if x_1.op = 17 then
          bnd (i_OpName x_1.op) fun x3 =>
          some x3
        else
          bnd (i_OpName x_1.op) fun x3 =>
          chk (x3.length + ([32] : List UInt8).length ≤ 9223372036854775807) <|
          bnd (i_FormatNumber x_1.a) fun x4 =>
          chk ((x3 ++ ([32] : List UInt8)).length + x4.length ≤ 9223372036854775807) <|
          some ((x3 ++ ([32] : List UInt8)) ++ x4)
  else
    some ([] : List UInt8)

def i_imageLines_L2b (x2 : Int) (go4 : (Int × List (List UInt8)) → Option (List (List UInt8))) (x5 : PCode) (go11 : (Int × List (List UInt8)) → Option (List (List UInt8))) (x9 : Int) (out10 : List (List UInt8)) : Option (List (List UInt8)) :=
  if x9 < (x5.instrs.length : Int) then
    bnd (nth x5.instrs x9) fun x12 =>
    bnd (i_FormatInstr x12) fun x13 =>
    chk ((out10.length + ([x13] : List (List UInt8)).length) * 16 ≤ 140737488355328) <|
    chk (I64 (x9 + 1)) <|
    go11 ((x9 + 1), (out10 ++ ([x13] : List (List UInt8))))
  else
    chk (I64 (x2 + 1)) <|
    go4 ((x2 + 1), out10)

def i_imageLines_L2 (x2 : Int) (go4 : (Int × List (List UInt8)) → Option (List (List UInt8))) (x5 : PCode) (go : (Int × List (List UInt8)) → Option (List (List UInt8))) (v : Int × List (List UInt8)) : Option (List (List UInt8)) :=
  match v with
  | (x9, out10) => i_imageLines_L2b x2 go4 x5 go x9 out10

def i_imageLines_L1b (m : PImage) (go4 : (Int × List (List UInt8)) → Option (List (List UInt8))) (x2 : Int) (out3 : List (List UInt8)) : Option (List (List UInt8)) :=
  if x2 < (m.codes.length : Int) then
    bnd (nth m.codes x2) fun x5 =>
    bnd (i_FormatNumber x5.params) fun x6 =>
    chk (([99, 111, 100, 101, 32] : List UInt8).length + x6.length ≤ 9223372036854775807) <|
    chk ((([99, 111, 100, 101, 32] : List UInt8) ++ x6).length + ([32] : List UInt8).length ≤ 9223372036854775807) <|
    bnd (i_FormatNumber x5.slots) fun x7 =>
    chk (((([99, 111, 100, 101, 32] : List UInt8) ++ x6) ++ ([32] : List UInt8)).length + x7.length ≤ 9223372036854775807) <|
    chk ((((([99, 111, 100, 101, 32] : List UInt8) ++ x6) ++ ([32] : List UInt8)) ++ x7).length + ([32] : List UInt8).length ≤ 9223372036854775807) <|
    bnd (i_FormatNumber x5.captures) fun x8 =>
    chk (((((([99, 111, 100, 101, 32] : List UInt8) ++ x6) ++ ([32] : List UInt8)) ++ x7) ++ ([32] : List UInt8)).length + x8.length ≤ 9223372036854775807) <|
    chk ((out3.length + ([(((((([99, 111, 100, 101, 32] : List UInt8) ++ x6) ++ ([32] : List UInt8)) ++ x7) ++ ([32] : List UInt8)) ++ x8)] : List (List UInt8)).length) * 16 ≤ 140737488355328) <|
    itr (i_imageLines_L2 x2 go4 x5) LF (0, (out3 ++ ([(((((([99, 111, 100, 101, 32] : List UInt8) ++ x6) ++ ([32] : List UInt8)) ++ x7) ++ ([32] : List UInt8)) ++ x8)] : List (List UInt8))))
  else
    some out3

def i_imageLines_L1 (m : PImage) (go : (Int × List (List UInt8)) → Option (List (List UInt8))) (v : Int × List (List UInt8)) : Option (List (List UInt8)) :=
  match v with
  | (x2, out3) => i_imageLines_L1b m go x2 out3

def i_imageLines (m : PImage) : Option (List (List UInt8)) :=
  itr (i_imageLines_L1 m) LF (0, [])

def i_FormatImage (m : PImage) : Option (List (List UInt8)) :=
  if (m.codes.length : Int) = 0 then
    some []
  else
    chk (I64 ((m.codes.length : Int) - 1)) <|
    bnd (nth m.codes ((m.codes.length : Int) - 1)) fun x2 =>
    bnd (i_IsImage m x2.captures) fun x3 =>
    if x3 = true then
      bnd (i_imageLines m) fun x4 =>
      some x4
    else
      some []

end Go.Abs
