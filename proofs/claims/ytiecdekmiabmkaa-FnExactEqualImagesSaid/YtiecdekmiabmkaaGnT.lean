/-
  Codecs of the program's data.
-/
import Derived.Test.YtiecdekmiabmkaaGnC
import Derived.Test.YtiecdekmiabmkaaPlF
set_option linter.unusedVariables false
set_option linter.unusedSimpArgs false
namespace Go.Abs

@[reducible] def cDat : Cd PDat where
  sz := 4
  enc := PDat.enc
  row := PDat.encX
  eq l x := PDat.enc_eq l x
  rl f l x := PDat.rlL_encX f l x
  len _ _ := rfl
  one s l x h := by simp [PDat.encX, oneV, St.live, h]
@[reducible] def cInstr : Cd PInstr where
  sz := 6
  enc := PInstr.enc
  row := PInstr.enc
  eq _ _ := rfl
  rl f l x := PInstr.rl f l x
  len _ _ := rfl
  one s l x h := by simp [PInstr.enc, oneV, St.live, h]
@[reducible] def cCode : Cd PCode where
  sz := 4
  enc := PCode.enc
  row := PCode.enc
  eq _ _ := rfl
  rl f l x := PCode.rl f l x
  len _ _ := rfl
  one s l x h := by simp [PCode.enc, oneV, St.live, h]
@[reducible] def cImage : Cd PImage where
  sz := 2
  enc := PImage.enc
  row := PImage.enc
  eq _ _ := rfl
  rl f l x := PImage.rl f l x
  len _ _ := rfl
  one s l x h := by simp [PImage.enc, oneV, St.live, h]
@[reducible] def cVal : Cd PVal where
  sz := 3
  enc _ := PVal.enc
  row _ := PVal.enc
  eq _ _ := rfl
  rl _ _ _ := rfl
  len _ _ := rfl
  one _ _ _ _ := rfl
@[reducible] def cPair : Cd PPair where
  sz := 6
  enc _ := PPair.enc
  row _ := PPair.enc
  eq _ _ := rfl
  rl _ _ _ := rfl
  len _ _ := rfl
  one _ _ _ _ := rfl
end Go.Abs
