/-
  Programs, made by wip/gen: E
-/
import Derived.Test.YtiecdekmiabmkaaGpD
set_option linter.unusedVariables false
set_option linter.unusedSimpArgs false
namespace Go.Abs
set_option linter.unusedVariables false

def s_l8Quote_L1b (s_l8Quote : PDat → List PPair → Option (PVal × List PPair)) (d : PDat) (go7 : (Int × List PPair × PVal) → Option (PVal × List PPair)) (i4 : Int) (pairs5 : List PPair) (tail6 : PVal) : Option (PVal × List PPair) :=
  if i4 ≥ 0 then
    bnd (nth d.items i4) fun x8 =>
    bnd (s_l8Quote x8 pairs5) fun x9 =>
    chk ((x9.2.length + ([(PPair.mk x9.1 tail6)] : List PPair).length) * 64 ≤ 140737488355328) <|
    chk (I64 (((x9.2 ++ ([(PPair.mk x9.1 tail6)] : List PPair)).length : Int) - 1)) <|
    chk (I64 (i4 - 1)) <|
    go7 ((i4 - 1), (x9.2 ++ ([(PPair.mk x9.1 tail6)] : List PPair)), (PVal.mk 7 (((x9.2 ++ ([(PPair.mk x9.1 tail6)] : List PPair)).length : Int) - 1) ([] : List UInt8)))
  else
    some (tail6, pairs5)

def s_l8Quote_L1 (s_l8Quote : PDat → List PPair → Option (PVal × List PPair)) (d : PDat) (go : (Int × List PPair × PVal) → Option (PVal × List PPair)) (v : Int × List PPair × PVal) : Option (PVal × List PPair) :=
  match v with
  | (i4, pairs5, tail6) => s_l8Quote_L1b s_l8Quote d go i4 pairs5 tail6

def s_l8Quote_b (s_l8Quote : PDat → List PPair → Option (PVal × List PPair)) (d : PDat) (pairs : List PPair) : Option (PVal × List PPair) :=
  if d.kind = 1 then
    some ((PVal.mk 4 0 d.text), pairs)
  else
    if d.kind = 2 then
      some ((PVal.mk 3 d.number ([] : List UInt8)), pairs)
    else
      if d.kind = 3 then
        some ((PVal.mk 2 d.number ([] : List UInt8)), pairs)
      else
        if d.kind = 4 then
          some ((PVal.mk 5 0 d.text), pairs)
        else
          chk (I64 ((d.items.length : Int) - 1)) <|
          itr (s_l8Quote_L1 s_l8Quote d) LF (((d.items.length : Int) - 1), pairs, (PVal.mk 1 0 ([] : List UInt8)))

def s_l8Quote : Nat → PDat → List PPair → Option (PVal × List PPair)
  | 0, _, _ => none
  | n + 1, d, pairs => s_l8Quote_b (s_l8Quote n) d pairs

def s_ValueOf (d : PDat) (pairs : List PPair) : Option (PVal × List PPair × Bool) :=
  chk ((([] : List PPair).length + pairs.length) * 64 ≤ 140737488355328) <|
  bnd (s_IsDatum d) fun x3 =>
  if x3 = true then
    bnd (s_ArePairs pairs) fun x4 =>
    if x4 = true then
      bnd (s_l8Cells RF d) fun x5 =>
      chk (I64 ((pairs.length : Int) + x5)) <|
      if ((pairs.length : Int) + x5) > 2000 then
        some ((PVal.mk 0 0 ([] : List UInt8)), (([] : List PPair) ++ pairs), false)
      else
        bnd (s_l8Quote RF d (([] : List PPair) ++ pairs)) fun x6 =>
        some (x6.1, x6.2, true)
    else
      some ((PVal.mk 0 0 ([] : List UInt8)), (([] : List PPair) ++ pairs), false)
  else
    some ((PVal.mk 0 0 ([] : List UInt8)), (([] : List PPair) ++ pairs), false)

def i_valueOf_L1b (i_valueOf : PDat → List PPair → Option (PVal × List PPair)) (d : PDat) (go7 : (Int × List PPair × PVal) → Option (PVal × List PPair)) (i4 : Int) (pairs5 : List PPair) (list6 : PVal) : Option (PVal × List PPair) :=
  if i4 ≥ 0 then
    bnd (nth d.items i4) fun x8 =>
    bnd (i_valueOf x8 pairs5) fun x9 =>
    chk ((x9.2.length + ([(PPair.mk x9.1 list6)] : List PPair).length) * 64 ≤ 140737488355328) <|
    chk (I64 (((x9.2 ++ ([(PPair.mk x9.1 list6)] : List PPair)).length : Int) - 1)) <|
    chk (I64 (i4 - 1)) <|
    go7 ((i4 - 1), (x9.2 ++ ([(PPair.mk x9.1 list6)] : List PPair)), (PVal.mk 7 (((x9.2 ++ ([(PPair.mk x9.1 list6)] : List PPair)).length : Int) - 1) ([] : List UInt8)))
  else
    some (list6, pairs5)

def i_valueOf_L1 (i_valueOf : PDat → List PPair → Option (PVal × List PPair)) (d : PDat) (go : (Int × List PPair × PVal) → Option (PVal × List PPair)) (v : Int × List PPair × PVal) : Option (PVal × List PPair) :=
  match v with
  | (i4, pairs5, list6) => i_valueOf_L1b i_valueOf d go i4 pairs5 list6

def i_valueOf_b (i_valueOf : PDat → List PPair → Option (PVal × List PPair)) (d : PDat) (pairs : List PPair) : Option (PVal × List PPair) :=
  if d.kind = 1 then
    some ((PVal.mk 4 0 d.text), pairs)
  else
    if d.kind = 2 then
      some ((PVal.mk 3 d.number ([] : List UInt8)), pairs)
    else
      if d.kind = 3 then
        some ((PVal.mk 2 d.number ([] : List UInt8)), pairs)
      else
        if d.kind = 4 then
          some ((PVal.mk 5 0 d.text), pairs)
        else
          chk (I64 ((d.items.length : Int) - 1)) <|
          itr (i_valueOf_L1 i_valueOf d) LF (((d.items.length : Int) - 1), pairs, (PVal.mk 1 0 ([] : List UInt8)))

def i_valueOf : Nat → PDat → List PPair → Option (PVal × List PPair)
  | 0, _, _ => none
  | n + 1, d, pairs => i_valueOf_b (i_valueOf n) d pairs

def i_ValueOf (d : PDat) (pairs : List PPair) : Option (PVal × List PPair × Bool) :=
  chk (pairs.length * 64 ≤ 140737488355328) <|
  bnd (i_IsDatum d) fun x3 =>
  if x3 = true then
    bnd (i_ArePairs pairs) fun x4 =>
    if x4 = true then
      bnd (i_itemsIn RF d) fun x5 =>
      chk (I64 ((pairs.length : Int) + x5)) <|
      if ((pairs.length : Int) + x5) > 2000 then
        some ((PVal.mk 0 0 ([] : List UInt8)), pairs, false)
      else
        bnd (i_valueOf RF d pairs) fun x6 =>
        some (x6.1, x6.2, true)
    else
      some ((PVal.mk 0 0 ([] : List UInt8)), pairs, false)
  else
    some ((PVal.mk 0 0 ([] : List UInt8)), pairs, false)

def w_markDatum (a : PDat) (k : Int) : Option (Int × List PDat) :=
  bnd (w_markDatumS RF a.items k) fun x3 =>
  chk (x3.2.length = a.items.length) <|
  some (x3.1, x3.2)

def w_FnExactValueOf (aD : PDat) (aPairs : List PPair) : Option Bool :=
  bnd (w_szDatum RF aD 1048576) fun x3 =>
  if x3 < 0 then
    some true
  else
    bnd (w_szPairS aPairs x3) fun x4 =>
    if x4 < 0 then
      some true
    else
      bnd (w_toDatum RF aD) fun x5 =>
      bnd (w_toPairS aPairs) fun x6 =>
      bnd (s_ValueOf x5 x6) fun x7 =>
      bnd (w_toDatum RF aD) fun x8 =>
      bnd (w_toPairS aPairs) fun x9 =>
      bnd (i_ValueOf x8 x9) fun x10 =>
      bnd (w_eqValue x10.1 x7.1) fun x11 =>
      if x11 = true then
        bnd (w_eqPairS x10.2.1 x7.2.1) fun x12 =>
        if x12 = true then
          if x10.2.2 = x7.2.2 then
            bnd (w_toDatum RF aD) fun x13 =>
            bnd (w_eqDatum RF x8 x13) fun x14 =>
            if x14 = true then
              bnd (w_toPairS aPairs) fun x15 =>
              bnd (w_eqPairS x9 x15) fun x16 =>
              if x16 = true then
                bnd (w_markDatum x8 1) fun x17 =>
                chk (x17.2.length = x8.items.length) <|
                bnd (w_markPairS x9 x17.1) fun x18 =>
                chk (x18.2.length = x9.length) <|
                if x18.1 < 0 then
                  some false
                else
                  bnd (w_eqValue x10.1 x7.1) fun x19 =>
                  if x19 = true then
                    bnd (w_eqPairS x10.2.1 x7.2.1) fun x20 =>
                    if x20 = true then
                      if x10.2.2 = x7.2.2 then
                        bnd (w_markPairS x10.2.1 1) fun x21 =>
                        chk (x21.2.length = x10.2.1.length) <|
                        bnd (w_heldPairS x21.2 1) fun x22 =>
                        if x22 < 0 then
                          some false
                        else
                          if x22 = x21.1 then
                            bnd (w_toDatum RF aD) fun x23 =>
                            bnd (w_toPairS aPairs) fun x24 =>
                            bnd (i_ValueOf x23 x24) fun x25 =>
                            bnd (w_eqValue x25.1 x7.1) fun x26 =>
                            if x26 = true then
                              bnd (w_eqPairS x25.2.1 x7.2.1) fun x27 =>
                              if x27 = true then
                                if x25.2.2 = x7.2.2 then
                                  bnd (w_heldPairS x21.2 1) fun x28 =>
                                  if x28 < 0 then
                                    some false
                                  else
                                    if x28 = x21.1 then
                                      some true
                                    else
                                      some false
                                else
                                  some false
                              else
                                some false
                            else
                              some false
                          else
                            some false
                      else
                        some false
                    else
                      some false
                  else
                    some false
              else
                some false
            else
              some false
          else
            some false
        else
          some false
      else
        some false

end Go.Abs
