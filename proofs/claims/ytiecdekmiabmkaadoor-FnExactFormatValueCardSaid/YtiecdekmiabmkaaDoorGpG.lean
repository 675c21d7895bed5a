/-
  Programs, made by wip/gen: G
-/
import Derived.Test.YtiecdekmiabmkaaDoorGpF
set_option linter.unusedVariables false
set_option linter.unusedSimpArgs false
namespace Go.Abs
set_option linter.unusedVariables false

def s_FormatNumber_J2 (out2 : List UInt8) (x3 : Int) (go4 : (List UInt8 × Int) → Option (List UInt8)) (d5 : Int) : Option (List UInt8) :=
  chk (I64 (48 + d5)) <|
  chk (0 ≤ (48 + d5) ∧ (48 + d5) ≤ 255) <|
  chk (([(UInt8.ofNat (48 + d5).toNat)] : List UInt8).length + out2.length ≤ 9223372036854775807) <|
  chk (I64 x3 ∧ (0 : Int) < 10) <|
  go4 ((([(UInt8.ofNat (48 + d5).toNat)] : List UInt8) ++ out2), (Int.tdiv x3 10))

def s_FormatNumber_L1b (x_1 : Int) (go4 : (List UInt8 × Int) → Option (List UInt8)) (out2 : List UInt8) (x3 : Int) : Option (List UInt8) :=
  if x3 = 0 then
    if x_1 < 0 then
      chk (([45] : List UInt8).length + out2.length ≤ 9223372036854775807) <|
      some (([45] : List UInt8) ++ out2)
    else
      some out2
  else
    chk (I64 x3 ∧ (0 : Int) < 10) <|
    if (Int.tmod x3 10) < 0 then
      chk (I64 (-(Int.tmod x3 10))) <|
      s_FormatNumber_J2 out2 x3 go4 (-(Int.tmod x3 10))
    else
      s_FormatNumber_J2 out2 x3 go4 (Int.tmod x3 10)

def s_FormatNumber_L1 (x_1 : Int) (go : (List UInt8 × Int) → Option (List UInt8)) (v : List UInt8 × Int) : Option (List UInt8) :=
  match v with
  | (out2, x3) => s_FormatNumber_L1b x_1 go out2 x3

def s_FormatNumber (x_1 : Int) : Option (List UInt8) :=
  if x_1 = 0 then
    some ([48] : List UInt8)
  else
    itr (s_FormatNumber_L1 x_1) LF (([] : List UInt8), x_1)

def s_l8Print_J3 (s_l8Print : PVal → List PPair → List UInt8 → Option (List UInt8)) (pairs : List PPair) (x6 : Int) (x7 : PVal) (go8 : (List UInt8 × Int × PVal) → Option (List UInt8)) (out10 : List UInt8) : Option (List UInt8) :=
  bnd (nth pairs x7.number) fun x11 =>
  bnd (s_l8Print x11.h pairs out10) fun x12 =>
  bnd (nth pairs x7.number) fun x13 =>
  chk (I64 (x6 + 1)) <|
  go8 (x12, (x6 + 1), x13.t)

def s_l8Print_J4 (s_l8Print : PVal → List PPair → List UInt8 → Option (List UInt8)) (pairs : List PPair) (out5 : List UInt8) (x7 : PVal) (x10 : Bool) : Option (List UInt8) :=
  if x10 = true then
    chk (out5.length + ([32, 46, 32] : List UInt8).length ≤ 9223372036854775807) <|
    bnd (s_l8Print x7 pairs (out5 ++ ([32, 46, 32] : List UInt8))) fun x11 =>
    chk (x11.length + ([41] : List UInt8).length ≤ 9223372036854775807) <|
    some (x11 ++ ([41] : List UInt8))
  else
    chk (out5.length + ([41] : List UInt8).length ≤ 9223372036854775807) <|
    some (out5 ++ ([41] : List UInt8))

def s_l8Print_J2 (s_l8Print : PVal → List PPair → List UInt8 → Option (List UInt8)) (pairs : List PPair) (out5 : List UInt8) (x6 : Int) (x7 : PVal) (go8 : (List UInt8 × Int × PVal) → Option (List UInt8)) (x9 : Bool) : Option (List UInt8) :=
  if x9 = true then
    if x6 > 0 then
      chk (out5.length + ([32] : List UInt8).length ≤ 9223372036854775807) <|
      s_l8Print_J3 s_l8Print pairs x6 x7 go8 (out5 ++ ([32] : List UInt8))
    else
      s_l8Print_J3 s_l8Print pairs x6 x7 go8 out5
  else
    if x7.kind = 1 then
      s_l8Print_J4 s_l8Print pairs out5 x7 false
    else
      s_l8Print_J4 s_l8Print pairs out5 x7 (decide ((out5.length : Int) ≤ 120))

def s_l8Print_L1b (s_l8Print : PVal → List PPair → List UInt8 → Option (List UInt8)) (pairs : List PPair) (go8 : (List UInt8 × Int × PVal) → Option (List UInt8)) (out5 : List UInt8) (x6 : Int) (x7 : PVal) : Option (List UInt8) :=
  if x7.kind = 7 then
    s_l8Print_J2 s_l8Print pairs out5 x6 x7 go8 (decide ((out5.length : Int) ≤ 120))
  else
    s_l8Print_J2 s_l8Print pairs out5 x6 x7 go8 false

def s_l8Print_L1 (s_l8Print : PVal → List PPair → List UInt8 → Option (List UInt8)) (pairs : List PPair) (go : (List UInt8 × Int × PVal) → Option (List UInt8)) (v : List UInt8 × Int × PVal) : Option (List UInt8) :=
  match v with
  | (out5, x6, x7) => s_l8Print_L1b s_l8Print pairs go out5 x6 x7

def s_l8Print_b (s_l8Print : PVal → List PPair → List UInt8 → Option (List UInt8)) (x_1 : PVal) (pairs : List PPair) (out : List UInt8) : Option (List UInt8) :=
  if (out.length : Int) > 120 then
    some out
  else
    if x_1.kind = 0 then
      chk (out.length + ([35, 118, 111, 105, 100] : List UInt8).length ≤ 9223372036854775807) <|
      some (out ++ ([35, 118, 111, 105, 100] : List UInt8))
    else
      if x_1.kind = 1 then
        chk (out.length + ([40, 41] : List UInt8).length ≤ 9223372036854775807) <|
        some (out ++ ([40, 41] : List UInt8))
      else
        if x_1.kind = 2 then
          bnd (nth ([([35, 102] : List UInt8), ([35, 116] : List UInt8)] : List (List UInt8)) x_1.number) fun x5 =>
          chk (out.length + x5.length ≤ 9223372036854775807) <|
          some (out ++ x5)
        else
          if x_1.kind = 3 then
            bnd (s_FormatNumber x_1.number) fun x5 =>
            chk (out.length + x5.length ≤ 9223372036854775807) <|
            some (out ++ x5)
          else
            if x_1.kind = 4 then
              chk (out.length + x_1.text.length ≤ 9223372036854775807) <|
              some (out ++ x_1.text)
            else
              if x_1.kind = 5 then
                chk (out.length + ([34] : List UInt8).length ≤ 9223372036854775807) <|
                chk ((out ++ ([34] : List UInt8)).length + x_1.text.length ≤ 9223372036854775807) <|
                chk (((out ++ ([34] : List UInt8)) ++ x_1.text).length + ([34] : List UInt8).length ≤ 9223372036854775807) <|
                some (((out ++ ([34] : List UInt8)) ++ x_1.text) ++ ([34] : List UInt8))
              else
                if x_1.kind = 7 then
                  chk (out.length + ([40] : List UInt8).length ≤ 9223372036854775807) <|
                  itr (s_l8Print_L1 s_l8Print pairs) LF ((out ++ ([40] : List UInt8)), 0, x_1)
                else
                  chk (out.length + ([35, 112, 114, 111, 99, 101, 100, 117, 114, 101] : List UInt8).length ≤ 9223372036854775807) <|
                  some (out ++ ([35, 112, 114, 111, 99, 101, 100, 117, 114, 101] : List UInt8))

def s_l8Print : Nat → PVal → List PPair → List UInt8 → Option (List UInt8)
  | 0, _, _, _ => none
  | n + 1, x_1, pairs, out => s_l8Print_b (s_l8Print n) x_1 pairs out

def s_l8Text (x_1 : PVal) (pairs : List PPair) : Option (List UInt8) :=
  bnd (s_l8Print RF x_1 pairs ([] : List UInt8)) fun x3 =>
  if (x3.length : Int) > 120 then
    chk (0 ≤ (120 : Int) ∧ (120 : Int) ≤ x3.length) <|
    some (x3.take (120 : Int).toNat)
  else
    some x3

def s_FormatValue (x_1 : PVal) (pairs : List PPair) : Option (List UInt8) :=
  bnd (s_IsValue x_1 pairs) fun x3 =>
  if x3 = true then
    bnd (s_l8Text x_1 pairs) fun x4 =>
    some x4
  else
    some ([] : List UInt8)

def s_l1Join_J2 (x4 : Int) (go5 : (List UInt8 × Int) → Option (List UInt8)) (x6 : List UInt8) (out7 : List UInt8) : Option (List UInt8) :=
  chk (out7.length + x6.length ≤ 9223372036854775807) <|
  chk (I64 (x4 + 1)) <|
  go5 ((out7 ++ x6), (x4 + 1))

def s_l1Join_L1b (list : List (List UInt8)) (x_1 : List UInt8) (go5 : (List UInt8 × Int) → Option (List UInt8)) (out3 : List UInt8) (x4 : Int) : Option (List UInt8) :=
  if x4 < (list.length : Int) then
    bnd (nth list x4) fun x6 =>
    if x4 > 0 then
      chk (out3.length + x_1.length ≤ 9223372036854775807) <|
      s_l1Join_J2 x4 go5 x6 (out3 ++ x_1)
    else
      s_l1Join_J2 x4 go5 x6 out3
  else
    some out3

def s_l1Join_L1 (list : List (List UInt8)) (x_1 : List UInt8) (go : (List UInt8 × Int) → Option (List UInt8)) (v : List UInt8 × Int) : Option (List UInt8) :=
  match v with
  | (out3, x4) => s_l1Join_L1b list x_1 go out3 x4

def s_l1Join (list : List (List UInt8)) (x_1 : List UInt8) : Option (List UInt8) :=
  itr (s_l1Join_L1 list x_1) LF (([] : List UInt8), 0)

def s_l1Format_L1b (s_l1Format : PDat → Option (List UInt8)) (d : PDat) (go5 : (Int × List (List UInt8)) → Option (List UInt8)) (x3 : Int) (parts4 : List (List UInt8)) : Option (List UInt8) :=
  if x3 < (d.items.length : Int) then
    bnd (nth d.items x3) fun x6 =>
    bnd (s_l1Format x6) fun x7 =>
    chk ((parts4.length + ([x7] : List (List UInt8)).length) * 16 ≤ 140737488355328) <|
    chk (I64 (x3 + 1)) <|
    go5 ((x3 + 1), (parts4 ++ ([x7] : List (List UInt8))))
  else
    bnd (s_l1Join parts4 ([32] : List UInt8)) fun x6 =>
    chk (([40] : List UInt8).length + x6.length ≤ 9223372036854775807) <|
    chk ((([40] : List UInt8) ++ x6).length + ([41] : List UInt8).length ≤ 9223372036854775807) <|
    some ((([40] : List UInt8) ++ x6) ++ ([41] : List UInt8))

def s_l1Format_L1 (s_l1Format : PDat → Option (List UInt8)) (d : PDat) (go : (Int × List (List UInt8)) → Option (List UInt8)) (v : Int × List (List UInt8)) : Option (List UInt8) :=
  match v with
  | (x3, parts4) => s_l1Format_L1b s_l1Format d go x3 parts4

def s_l1Format_b (s_l1Format : PDat → Option (List UInt8)) (d : PDat) : Option (List UInt8) :=
  if d.kind = 1 then
    some d.text
  else
    if d.kind = 2 then
      bnd (s_FormatNumber d.number) fun x3 =>
      some x3
    else
      if d.kind = 3 then
        bnd (nth ([([35, 102] : List UInt8), ([35, 116] : List UInt8)] : List (List UInt8)) d.number) fun x3 =>
        some x3
      else
        if d.kind = 4 then
          chk (([34] : List UInt8).length + d.text.length ≤ 9223372036854775807) <|
          chk ((([34] : List UInt8) ++ d.text).length + ([34] : List UInt8).length ≤ 9223372036854775807) <|
          some ((([34] : List UInt8) ++ d.text) ++ ([34] : List UInt8))
        else
          itr (s_l1Format_L1 s_l1Format d) LF (0, ([] : List (List UInt8)))

def s_l1Format : Nat → PDat → Option (List UInt8)
  | 0, _ => none
  | n + 1, d => s_l1Format_b (s_l1Format n) d

end Go.Abs
