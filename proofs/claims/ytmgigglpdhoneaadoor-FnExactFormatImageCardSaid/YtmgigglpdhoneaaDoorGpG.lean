/-
  Programs, made by wip/gen: G
-/
import Derived.Test.YtmgigglpdhoneaaDoorGpF
set_option linter.unusedVariables false
set_option linter.unusedSimpArgs false
namespace Go.Abs
set_option linter.unusedVariables false

def s_FormatNumber_J2 (out2 : List UInt8) (x3 : Int) (go4 : (List UInt8 × Int) → Option (List UInt8)) (d5 : Int) : Option (List UInt8) :=
  chk (I64 (48 + d5)) <|
  chk (0 ≤ (48 + d5) ∧ (48 + d5) ≤ 255) <|
  chk (([(UInt8.ofNat (48 + d5).toNat)] : List UInt8).length + out2.length ≤ 9223372036854775807) <|
  chk (I64 x3 ∧ (0 : Int) < 10) <|
  go4 ((([(UInt8.ofNat (48 + d5).toNat)] : List UInt8) ++ out2), (Int.tdiv x3 10))

def s_FormatNumber_L1b (x_1 : Int) (go4 : (List UInt8 × Int) → Option (List UInt8)) (out2 : List UInt8) (x3 : Int) : Option (List UInt8) :=
  if x3 = 0 then
    if x_1 < 0 then
      chk (([45] : List UInt8).length + out2.length ≤ 9223372036854775807) <|
      some (([45] : List UInt8) ++ out2)
    else
      some out2
  else
    chk (I64 x3 ∧ (0 : Int) < 10) <|
    if (Int.tmod x3 10) < 0 then
      chk (I64 (-(Int.tmod x3 10))) <|
      s_FormatNumber_J2 out2 x3 go4 (-(Int.tmod x3 10))
    else
      s_FormatNumber_J2 out2 x3 go4 (Int.tmod x3 10)

def s_FormatNumber_L1 (x_1 : Int) (go : (List UInt8 × Int) → Option (List UInt8)) (v : List UInt8 × Int) : Option (List UInt8) :=
  match v with
  | (out2, x3) => s_FormatNumber_L1b x_1 go out2 x3

def s_FormatNumber (x_1 : Int) : Option (List UInt8) :=
  if x_1 = 0 then
    some ([48] : List UInt8)
  else
    itr (s_FormatNumber_L1 x_1) LF (([] : List UInt8), x_1)

def s_l1Join_J2 (x4 : Int) (go5 : (List UInt8 × Int) → Option (List UInt8)) (x6 : List UInt8) (out7 : List UInt8) : Option (List UInt8) :=
  chk (out7.length + x6.length ≤ 9223372036854775807) <|
  chk (I64 (x4 + 1)) <|
  go5 ((out7 ++ x6), (x4 + 1))

def s_l1Join_L1b (list : List (List UInt8)) (x_1 : List UInt8) (go5 : (List UInt8 × Int) → Option (List UInt8)) (out3 : List UInt8) (x4 : Int) : Option (List UInt8) :=
  if x4 < (list.length : Int) then
    bnd (nth list x4) fun x6 =>
    if x4 > 0 then
      chk (out3.length + x_1.length ≤ 9223372036854775807) <|
      s_l1Join_J2 x4 go5 x6 (out3 ++ x_1)
    else
      s_l1Join_J2 x4 go5 x6 out3
  else
    some out3

def s_l1Join_L1 (list : List (List UInt8)) (x_1 : List UInt8) (go : (List UInt8 × Int) → Option (List UInt8)) (v : List UInt8 × Int) : Option (List UInt8) :=
  match v with
  | (out3, x4) => s_l1Join_L1b list x_1 go out3 x4

def s_l1Join (list : List (List UInt8)) (x_1 : List UInt8) : Option (List UInt8) :=
  itr (s_l1Join_L1 list x_1) LF (([] : List UInt8), 0)

def s_l1Format_L1b (s_l1Format : PDat → Option (List UInt8)) (d : PDat) (go5 : (Int × List (List UInt8)) → Option (List UInt8)) (x3 : Int) (parts4 : List (List UInt8)) : Option (List UInt8) :=
  if x3 < (d.items.length : Int) then
    bnd (nth d.items x3) fun x6 =>
    bnd (s_l1Format x6) fun x7 =>
    chk ((parts4.length + ([x7] : List (List UInt8)).length) * 16 ≤ 140737488355328) <|
    chk (I64 (x3 + 1)) <|
    go5 ((x3 + 1), (parts4 ++ ([x7] : List (List UInt8))))
  else
    bnd (s_l1Join parts4 ([32] : List UInt8)) fun x6 =>
    chk (([40] : List UInt8).length + x6.length ≤ 9223372036854775807) <|
    chk ((([40] : List UInt8) ++ x6).length + ([41] : List UInt8).length ≤ 9223372036854775807) <|
    some ((([40] : List UInt8) ++ x6) ++ ([41] : List UInt8))

def s_l1Format_L1 (s_l1Format : PDat → Option (List UInt8)) (d : PDat) (go : (Int × List (List UInt8)) → Option (List UInt8)) (v : Int × List (List UInt8)) : Option (List UInt8) :=
  match v with
  | (x3, parts4) => s_l1Format_L1b s_l1Format d go x3 parts4

def s_l1Format_b (s_l1Format : PDat → Option (List UInt8)) (d : PDat) : Option (List UInt8) :=
  if d.kind = 1 then
    some d.text
  else
    if d.kind = 2 then
      bnd (s_FormatNumber d.number) fun x3 =>
      some x3
    else
      if d.kind = 3 then
        bnd (nth ([([35, 102] : List UInt8), ([35, 116] : List UInt8)] : List (List UInt8)) d.number) fun x3 =>
        some x3
      else
        if d.kind = 4 then
          chk (([34] : List UInt8).length + d.text.length ≤ 9223372036854775807) <|
          chk ((([34] : List UInt8) ++ d.text).length + ([34] : List UInt8).length ≤ 9223372036854775807) <|
          some ((([34] : List UInt8) ++ d.text) ++ ([34] : List UInt8))
        else
          itr (s_l1Format_L1 s_l1Format d) LF (0, ([] : List (List UInt8)))

def s_l1Format : Nat → PDat → Option (List UInt8)
  | 0, _ => none
  | n + 1, d => s_l1Format_b (s_l1Format n) d

def s_OpName (op : Int) : Option (List UInt8) :=
  bnd (s_l1In op 1 20) fun x2 =>
  if x2 = true then
    chk (I64 (op - 1)) <|
    bnd (nth ([([99, 111, 110, 115, 116, 97, 110, 116] : List UInt8), ([112, 114, 105, 109, 105, 116, 105, 118, 101] : List UInt8), ([108, 111, 99, 97, 108] : List UInt8), ([99, 97, 112, 116, 117, 114, 101, 100] : List UInt8), ([114, 101, 97, 100, 45, 108, 111, 99, 97, 108] : List UInt8), ([114, 101, 97, 100, 45, 98, 111, 120] : List UInt8), ([119, 114, 105, 116, 101, 45, 108, 111, 99, 97, 108] : List UInt8), ([119, 114, 105, 116, 101, 45, 98, 111, 120] : List UInt8), ([110, 101, 119, 45, 98, 111, 120] : List UInt8), ([98, 111, 120, 45, 112, 97, 114, 97, 109] : List UInt8), ([99, 108, 111, 115, 117, 114, 101] : List UInt8), ([99, 97, 108, 108] : List UInt8), ([116, 97, 105, 108, 45, 99, 97, 108, 108] : List UInt8), ([114, 101, 116, 117, 114, 110] : List UInt8), ([106, 117, 109, 112] : List UInt8), ([106, 117, 109, 112, 45, 105, 102, 45, 102, 97, 108, 115, 101] : List UInt8), ([112, 111, 112] : List UInt8), ([114, 101, 115, 101, 116] : List UInt8), ([115, 104, 105, 102, 116] : List UInt8), ([101, 110, 116, 101, 114] : List UInt8)] : List (List UInt8)) (op - 1)) fun x3 =>
    some x3
  else
    some ([] : List UInt8)

def s_FormatInstr (x_1 : PInstr) : Option (List UInt8) :=
  bnd (s_l10Instr x_1) fun x2 =>
  if x2 = true then
    if x_1.op = 1 then
      bnd (s_OpName x_1.op) fun x3 =>
      chk (x3.length + ([32] : List UInt8).length ≤ 9223372036854775807) <|
      bnd (s_l1Format RF x_1.d) fun x4 =>
      chk ((x3 ++ ([32] : List UInt8)).length + x4.length ≤ 9223372036854775807) <|
      some ((x3 ++ ([32] : List UInt8)) ++ x4)
    else
      bnd (s_l10Plain x_1.op) fun x3 =>
      if x3 = true then
        bnd (s_OpName x_1.op) fun x4 =>
        some x4
      else
        bnd (s_OpName x_1.op) fun x4 =>
        chk (x4.length + ([32] : List UInt8).length ≤ 9223372036854775807) <|
        bnd (s_FormatNumber x_1.a) fun x5 =>
        chk ((x4 ++ ([32] : List UInt8)).length + x5.length ≤ 9223372036854775807) <|
        some ((x4 ++ ([32] : List UInt8)) ++ x5)
  else
    some ([] : List UInt8)

def s_l10Own (m : PImage) : Option Bool :=
  if (m.codes.length : Int) > 0 then
    chk (I64 ((m.codes.length : Int) - 1)) <|
    bnd (nth m.codes ((m.codes.length : Int) - 1)) fun x2 =>
    bnd (s_IsImage m x2.captures) fun x3 =>
    some x3
  else
    some false

def s_l10Lines_L2b (x2 : Int) (go4 : (Int × List (List UInt8)) → Option (List (List UInt8))) (x5 : PCode) (go11 : (Int × List (List UInt8)) → Option (List (List UInt8))) (x9 : Int) (out10 : List (List UInt8)) : Option (List (List UInt8)) :=
  if x9 < (x5.instrs.length : Int) then
    bnd (nth x5.instrs x9) fun x12 =>
    bnd (s_FormatInstr x12) fun x13 =>
    chk ((out10.length + ([x13] : List (List UInt8)).length) * 16 ≤ 140737488355328) <|
    chk (I64 (x9 + 1)) <|
    go11 ((x9 + 1), (out10 ++ ([x13] : List (List UInt8))))
  else
    chk (I64 (x2 + 1)) <|
    go4 ((x2 + 1), out10)

def s_l10Lines_L2 (x2 : Int) (go4 : (Int × List (List UInt8)) → Option (List (List UInt8))) (x5 : PCode) (go : (Int × List (List UInt8)) → Option (List (List UInt8))) (v : Int × List (List UInt8)) : Option (List (List UInt8)) :=
  match v with
  | (x9, out10) => s_l10Lines_L2b x2 go4 x5 go x9 out10

def s_l10Lines_L1b (m : PImage) (go4 : (Int × List (List UInt8)) → Option (List (List UInt8))) (x2 : Int) (out3 : List (List UInt8)) : Option (List (List UInt8)) :=
  if x2 < (m.codes.length : Int) then
    bnd (nth m.codes x2) fun x5 =>
    bnd (s_FormatNumber x5.params) fun x6 =>
    chk (([99, 111, 100, 101, 32] : List UInt8).length + x6.length ≤ 9223372036854775807) <|
    chk ((([99, 111, 100, 101, 32] : List UInt8) ++ x6).length + ([32] : List UInt8).length ≤ 9223372036854775807) <|
    bnd (s_FormatNumber x5.slots) fun x7 =>
    chk (((([99, 111, 100, 101, 32] : List UInt8) ++ x6) ++ ([32] : List UInt8)).length + x7.length ≤ 9223372036854775807) <|
    chk ((((([99, 111, 100, 101, 32] : List UInt8) ++ x6) ++ ([32] : List UInt8)) ++ x7).length + ([32] : List UInt8).length ≤ 9223372036854775807) <|
    bnd (s_FormatNumber x5.captures) fun x8 =>
    chk (((((([99, 111, 100, 101, 32] : List UInt8) ++ x6) ++ ([32] : List UInt8)) ++ x7) ++ ([32] : List UInt8)).length + x8.length ≤ 9223372036854775807) <|
    chk ((out3.length + ([(((((([99, 111, 100, 101, 32] : List UInt8) ++ x6) ++ ([32] : List UInt8)) ++ x7) ++ ([32] : List UInt8)) ++ x8)] : List (List UInt8)).length) * 16 ≤ 140737488355328) <|
    itr (s_l10Lines_L2 x2 go4 x5) LF (0, (out3 ++ ([(((((([99, 111, 100, 101, 32] : List UInt8) ++ x6) ++ ([32] : List UInt8)) ++ x7) ++ ([32] : List UInt8)) ++ x8)] : List (List UInt8))))
  else
    some out3

def s_l10Lines_L1 (m : PImage) (go : (Int × List (List UInt8)) → Option (List (List UInt8))) (v : Int × List (List UInt8)) : Option (List (List UInt8)) :=
  match v with
  | (x2, out3) => s_l10Lines_L1b m go x2 out3

def s_l10Lines (m : PImage) : Option (List (List UInt8)) :=
  itr (s_l10Lines_L1 m) LF (0, ([] : List (List UInt8)))

def s_FormatImage (m : PImage) : Option (List (List UInt8)) :=
  bnd (s_l10Own m) fun x2 =>
  if x2 = true then
    bnd (s_l10Lines m) fun x3 =>
    some x3
  else
    some []

end Go.Abs
