/-
  Programs, made by wip/gen: I
-/
import Derived.Test.YtmgigglpdhoneaaDoorGpH
set_option linter.unusedVariables false
set_option linter.unusedSimpArgs false
namespace Go.Abs
set_option linter.unusedVariables false

def w_FnExactFormatImage (aM : PImage) : Option Bool :=
  bnd (w_szImage aM 1048576) fun x2 =>
  if x2 < 0 then
    some true
  else
    bnd (w_toImage aM) fun x3 =>
    bnd (s_FormatImage x3) fun x4 =>
    bnd (w_toImage aM) fun x5 =>
    bnd (i_FormatImage x5) fun x6 =>
    bnd (w_eqStringS x6 x4) fun x7 =>
    if x7 = true then
      bnd (w_toImage aM) fun x8 =>
      bnd (w_eqImage x5 x8) fun x9 =>
      if x9 = true then
        bnd (w_markImage x5 1) fun x10 =>
        chk (x10.2.length = x5.codes.length) <|
        if x10.1 < 0 then
          some false
        else
          bnd (w_eqStringS x6 x4) fun x11 =>
          if x11 = true then
            bnd (w_markStringS x6 1) fun x12 =>
            chk (x12.2.length = x6.length) <|
            bnd (w_heldStringS x12.2 1) fun x13 =>
            if x13 < 0 then
              some false
            else
              if x13 = x12.1 then
                bnd (w_toImage aM) fun x14 =>
                bnd (i_FormatImage x14) fun x15 =>
                bnd (w_eqStringS x15 x4) fun x16 =>
                if x16 = true then
                  bnd (w_heldStringS x12.2 1) fun x17 =>
                  if x17 < 0 then
                    some false
                  else
                    if x17 = x12.1 then
                      some true
                    else
                      some false
                else
                  some false
              else
                some false
          else
            some false
      else
        some false
    else
      some false

end Go.Abs
