/-
  Plain: the law of EqualImages.
-/
import Derived.Test.YtiecdekmiabmkaaPsL
import Derived.Test.YtiecdekmiabmkaaGpE
set_option linter.unusedVariables false
set_option linter.unusedSimpArgs false
namespace Go.Abs
open PDat

def eqIns (x y : PInstr) : Bool := decide (x.op = y.op) && (decide (x.a = y.a) && eqb x.d y.d)
def eqInss : List PInstr → List PInstr → Bool
  | x :: r, y :: t => eqIns x y && eqInss r t
  | _, _ => true
def eqCd (x y : PCode) : Bool := decide (x.params = y.params) && (decide (x.slots = y.slots) && (decide (x.captures = y.captures) && (decide (x.instrs.length = y.instrs.length) && eqInss x.instrs y.instrs)))
def eqCds : List PCode → List PCode → Bool
  | x :: r, y :: t => eqCd x y && eqCds r t
  | _, _ => true
def eqImg (a b : PImage) : Bool := decide (a.codes.length = b.codes.length) && (decide (a.main = b.main) && eqCds a.codes b.codes)

theorem eqI_inner {E : PDat → PDat → Option Bool} {L : (Int → Option Bool) → Int → Option Bool} (x5 x6 : PCode) (y : Option Bool) (hl : x5.instrs.length = x6.instrs.length) (hn : x5.instrs.length ≤ 1048576)
    (hE : ∀ i (h : i < x5.instrs.length) (h2 : i < x6.instrs.length), E x5.instrs[i].d x6.instrs[i].d = some (eqb x5.instrs[i].d x6.instrs[i].d))
    (hL : ∀ go8 (x7 : Int), L go8 x7 = if x7 < (x5.instrs.length : Int) then
      bnd (nth x5.instrs x7) fun x9 => bnd (nth x6.instrs x7) fun x10 =>
      if x9.op = x10.op then
        bnd (nth x5.instrs x7) fun x11 => bnd (nth x6.instrs x7) fun x12 =>
        if x11.a = x12.a then
          bnd (nth x5.instrs x7) fun x13 => bnd (nth x6.instrs x7) fun x14 => bnd (E x13.d x14.d) fun x15 => if x15 = true then chk (I64 (x7 + 1)) (go8 (x7 + 1)) else some false
        else some false
      else some false
    else y) :
    itr L LF 0 = if eqInss x5.instrs x6.instrs = true then y else some false := by
  rw [itr_idx (L := L) x5.instrs.length (fun i => if eqInss (x5.instrs.drop i) (x6.instrs.drop i) = true then y else some false) (by omega) (fun go i hi hgo => ?_) (fun go => ?_)]
  · rfl
  · have hi2 : i < x6.instrs.length := by omega
    rw [hL, if_pos (by omega), nth_lt hi, nth_lt hi2]
    simp only [bnd_eq, hE i hi hi2]
    rw [List.drop_eq_getElem_cons hi, List.drop_eq_getElem_cons hi2, eqInss, eqIns]
    by_cases h1 : x5.instrs[i].op = x6.instrs[i].op
    · by_cases h2 : x5.instrs[i].a = x6.instrs[i].a
      · rw [if_pos h1, if_pos h2, decide_eq_true h1, decide_eq_true h2, chk_t (by omega), hgo]
        cases eqb x5.instrs[i].d x6.instrs[i].d <;> simp
      · rw [if_pos h1, if_neg h2, decide_eq_false h2]; simp
    · rw [if_neg h1, decide_eq_false h1]; simp
  · rw [hL, if_neg (by omega), List.drop_length]; simp [eqInss]
theorem eqI_outer {E : PDat → PDat → Option Bool} {L1 : (Int → Option Bool) → Int → Option Bool} {L2 : (Int → Option Bool) → Int → PCode → PCode → (Int → Option Bool) → Int → Option Bool} (a b : PImage) (hl : a.codes.length = b.codes.length) (ha : a.small)
    (hE : ∀ d e : PDat, d.small → E d e = some (eqb d e))
    (hL2 : ∀ go4 x3 (x5 x6 : PCode) go8 (x7 : Int), L2 go4 x3 x5 x6 go8 x7 = if x7 < (x5.instrs.length : Int) then
      bnd (nth x5.instrs x7) fun x9 => bnd (nth x6.instrs x7) fun x10 =>
      if x9.op = x10.op then
        bnd (nth x5.instrs x7) fun x11 => bnd (nth x6.instrs x7) fun x12 =>
        if x11.a = x12.a then
          bnd (nth x5.instrs x7) fun x13 => bnd (nth x6.instrs x7) fun x14 => bnd (E x13.d x14.d) fun x15 => if x15 = true then chk (I64 (x7 + 1)) (go8 (x7 + 1)) else some false
        else some false
      else some false
    else chk (I64 (x3 + 1)) (go4 (x3 + 1)))
    (hL1 : ∀ go4 (x3 : Int), L1 go4 x3 = if x3 < (a.codes.length : Int) then
      bnd (nth a.codes x3) fun x5 => bnd (nth b.codes x3) fun x6 =>
      if x5.params = x6.params then if x5.slots = x6.slots then if x5.captures = x6.captures then
        if (x5.instrs.length : Int) = (x6.instrs.length : Int) then itr (L2 go4 x3 x5 x6) LF 0 else some false
      else some false else some false else some false
    else some true) :
    itr L1 LF 0 = some (eqCds a.codes b.codes) := by
  have hn := ha.1
  rw [itr_idx (L := L1) a.codes.length (fun i => some (eqCds (a.codes.drop i) (b.codes.drop i))) (by omega) (fun go i hi hgo => ?_) (fun go => ?_)]
  · rfl
  · have hi2 : i < b.codes.length := by omega
    rw [hL1, if_pos (by omega), nth_lt hi, nth_lt hi2]
    simp only [bnd_eq]
    rw [List.drop_eq_getElem_cons hi, List.drop_eq_getElem_cons hi2, eqCds, eqCd]
    have hs := ha.2 _ (List.getElem_mem hi)
    generalize a.codes[i] = x at hs ⊢
    generalize b.codes[i] = y
    by_cases h1 : x.params = y.params
    · by_cases h2 : x.slots = y.slots
      · by_cases h3 : x.captures = y.captures
        · by_cases h4 : x.instrs.length = y.instrs.length
          · rw [if_pos h1, if_pos h2, if_pos h3, if_pos (by omega), decide_eq_true h1, decide_eq_true h2, decide_eq_true h3, decide_eq_true h4,
              eqI_inner (L := L2 go (i : Int) x y) x y _ h4 hs.1 (E := E) (fun j h h' => hE _ _ (hs.2 _ (List.getElem_mem h))) (fun go8 x7 => hL2 go _ x y go8 x7), chk_t (by omega), hgo]
            cases eqInss x.instrs y.instrs <;> simp
          · rw [if_pos h1, if_pos h2, if_pos h3, if_neg (by omega), decide_eq_false h4]; simp
        · rw [if_pos h1, if_pos h2, if_neg h3, decide_eq_false h3]; simp
      · rw [if_pos h1, if_neg h2, decide_eq_false h2]; simp
    · rw [if_neg h1, decide_eq_false h1]; simp
  · rw [hL1, if_neg (by omega), List.drop_length]; simp [eqCds]
theorem i_EqualImages_eq (a b : PImage) (ha : a.small) : i_EqualImages a b = some (eqImg a b) := by
  unfold i_EqualImages eqImg
  by_cases h1 : a.main = b.main
  · by_cases h2 : a.codes.length = b.codes.length
    · rw [if_pos h1, if_pos (by omega), decide_eq_true h1, decide_eq_true h2, eqI_outer (L1 := i_EqualImages_L1 a b) (L2 := fun go4 x3 x5 x6 => i_EqualImages_L2 a x3 go4 x5 x6) (E := i_EqualData RF) a b h2 ha (fun d e h => i_EqualData_eq RF d e (RF_cnt h) h) (fun _ _ _ _ _ _ => rfl) (fun _ _ => rfl)]
      simp
    · rw [if_pos h1, if_neg (by omega), decide_eq_false h2]; simp
  · rw [if_neg h1, decide_eq_false h1]; simp
theorem s_EqualImages_eq (a b : PImage) (ha : a.small) : s_EqualImages a b = some (eqImg a b) := by
  unfold s_EqualImages eqImg
  by_cases h2 : a.codes.length = b.codes.length
  · by_cases h1 : a.main = b.main
    · rw [if_pos h1, if_pos (by omega), decide_eq_true h1, decide_eq_true h2, eqI_outer (L1 := s_EqualImages_L1 a b) (L2 := fun go4 x3 x5 x6 => s_EqualImages_L2 a x3 go4 x5 x6) (E := s_EqualData RF) a b h2 ha (fun d e h => s_EqualData_eq RF d e (RF_cnt h) h) (fun _ _ _ _ _ _ => rfl) (fun _ _ => rfl)]
      simp
    · rw [if_pos (by omega), if_neg h1, decide_eq_false h1]; simp
  · rw [if_neg (by omega), decide_eq_false h2]; simp
theorem w_FnExactEqualImages_true (a b : PImage) (ha : a.ok) (hb : b.ok) : w_FnExactEqualImages a b = some true := by
  unfold w_FnExactEqualImages
  rw [szImage_eq a ha _ (by omega) (by omega), bnd_eq]
  by_cases h : szw (wM a) 1048576 < 0
  · rw [if_pos h]
  · have hp := szw_pos h
    have hs : a.small := small_wM (by omega)
    rw [if_neg h, szImage_eq b hb _ (by omega) (by omega), bnd_eq]
    by_cases h2 : szw (wM b) (szw (wM a) 1048576) < 0
    · rw [if_pos h2]
    · have hp2 := szw_pos h2
      have hs2 : b.small := small_wM (by omega)
      rw [if_neg h2]
      simp only [toImage_eq a hs, toImage_eq b hs2, bnd_eq, s_EqualImages_eq a b hs, i_EqualImages_eq a b hs, eqImage_eq a hs, eqImage_eq b hs2]
      simp
end Go.Abs
