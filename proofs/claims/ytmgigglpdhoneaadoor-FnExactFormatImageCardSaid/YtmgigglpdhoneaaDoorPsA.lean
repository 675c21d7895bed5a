/-
  Plain: what the made programs of letters, texts and data come to.
-/
import Derived.Test.YtmgigglpdhoneaaDoorGpD
import Derived.Test.YtmgigglpdhoneaaDoorLibF
set_option linter.unusedVariables false
set_option linter.unusedSimpArgs false
namespace Go.Abs

/-! ### Letters and texts -/
def symI (b : Int) : Bool := (decide (97 ≤ b) && decide (b ≤ 122)) || (decide (48 ≤ b) && decide (b ≤ 57)) || markOdd.contains b
theorem symI_b (b : UInt8) : symI b.toNat = markB b := rfl
theorem i_isDigit_eq (b : Int) : i_isDigit b = some (decide (48 ≤ b) && decide (b ≤ 57)) := by
  unfold i_isDigit
  by_cases h : 48 ≤ b <;> simp [h]
theorem s_l1Digit_eq (b : Int) : s_l1Digit b = some (decide (48 ≤ b) && decide (b ≤ 57)) := by
  unfold s_l1Digit
  by_cases h : 48 ≤ b <;> simp [h]
theorem i_symbolByte_J1_eq (b : Int) (x : Bool) : i_symbolByte_J1 b x = some (x || markOdd.contains b) := by
  unfold i_symbolByte_J1
  cases x
  · by_cases h : markOdd.contains b = true
    · simp only [markOdd, List.contains_cons, Bool.or_eq_true, beq_iff_eq, List.contains_nil] at h
      rcases h with h | h | h | h | h | h | h | h | h | h | h | h
      all_goals first | (subst h; rfl) | cases h
    · have h' : markOdd.contains b = false := by simpa using h
      simp only [markOdd, List.contains_cons, Bool.or_eq_true, beq_iff_eq, List.contains_nil, not_or] at h
      rw [h']
      simp [h]
  · rfl
theorem i_symbolByte_eq (b : Int) : i_symbolByte b = some (symI b) := by
  unfold i_symbolByte symI
  simp only [i_symbolByte_J1_eq]
  by_cases h1 : 97 ≤ b <;> by_cases h2 : b ≤ 122 <;> by_cases h3 : 48 ≤ b <;> simp [h1, h2, h3]
theorem s_l1Mark_J1_eq (b : Int) (x : Bool) : s_l1Mark_J1 b x = some (x || markOdd.contains b) := by
  unfold s_l1Mark_J1
  cases x
  · simp only [Bool.false_eq_true, if_false, Bool.false_or]
    have := itr_idx (L := s_l1Mark_L2 b) 11 (fun i => some ((markTab.drop i).any fun c => decide (((c.toNat : Nat) : Int) = b))) (by omega) (fun go i hi hgo => ?_) (fun go => ?_)
    · rw [this, List.drop_zero, markTab_any]
    · show s_l1Mark_L2b b go i = _
      unfold s_l1Mark_L2b
      have hl : i < markTab.length := hi
      have hl' : (i : Int) < 11 := by omega
      simp only [show ([33, 63, 42, 60, 62, 61, 47, 43, 45, 46, 95] : List UInt8) = markTab from rfl, show (markTab.length : Int) = 11 from rfl, hl', if_true, nth_lt hl, bnd_eq]
      rw [chk_t (by omega), hgo, List.drop_eq_getElem_cons hl, List.any_cons]
      by_cases h : (markTab[i].toNat : Int) = b <;> simp [h]
    · show s_l1Mark_L2b b go ((11 : Nat) : Int) = _
      rfl
  · rfl
theorem s_l1Mark_eq (b : Int) : s_l1Mark b = some (symI b) := by
  unfold s_l1Mark symI
  simp only [s_l1Mark_J1_eq, s_l1Digit_eq, bnd_eq]
  by_cases h1 : 97 ≤ b <;> by_cases h2 : b ≤ 122 <;> simp [h1, h2]

def SM (l : List UInt8) : Prop := l.length ≤ 9223372036854775806
theorem i_IsSymbol_loop (s : List UInt8) (h : SM s) : itr (i_IsSymbol_L2 s) LF 0 = some (s.all markB) := by
  rw [itr_all s markB (some true) (some false) (by unfold SM at h; omega) (fun go i hi => ?_) (fun go => ?_)]
  · cases s.all markB <;> rfl
  · show i_IsSymbol_L2b s go i = _
    unfold i_IsSymbol_L2b SM at *
    simp only [show ((i : Int) < (s.length : Int)) from by omega, if_true, nth_lt hi, bnd_eq, i_symbolByte_eq, symI_b]
    rw [chk_t (by omega)]
  · show i_IsSymbol_L2b s go _ = _
    unfold i_IsSymbol_L2b
    simp
theorem s_IsSymbol_loop (s : List UInt8) (h : SM s) : itr (s_IsSymbol_L2 s) LF 0 = some (s.all markB) := by
  rw [itr_all s markB (some true) (some false) (by unfold SM at h; omega) (fun go i hi => ?_) (fun go => ?_)]
  · cases s.all markB <;> rfl
  · show s_IsSymbol_L2b s go i = _
    unfold s_IsSymbol_L2b SM at *
    simp only [show ((i : Int) < (s.length : Int)) from by omega, if_true, nth_lt hi, bnd_eq, s_l1Mark_eq, symI_b]
    rw [chk_t (by omega)]
  · show s_IsSymbol_L2b s go _ = _
    unfold s_IsSymbol_L2b
    simp
theorem i_IsSymbol_eq (s : List UInt8) (h : SM s) : i_IsSymbol s = some (isSymbol s) := by
  unfold i_IsSymbol
  have hJ : ∀ b, i_IsSymbol_J1 s b = some (!b && s.all markB) := fun b => by
    unfold i_IsSymbol_J1
    cases b
    · simp [i_IsSymbol_loop s h]
    · rfl
  simp only [hJ, i_isDigit_eq, bnd_eq]
  unfold isSymbol headBad isDigit
  by_cases h1 : (s.length : Int) < 1
  · simp [h1]
  · by_cases h2 : (s.length : Int) > 16
    · simp [h1, h2]
    · have hl : 0 < s.length := by omega
      have e0 : nth s 0 = some (s.getD 0 0) := by rw [show (0 : Int) = ((0 : Nat) : Int) from rfl, nth_lt hl]; simp [List.getD, List.getElem?_eq_getElem hl]
      simp only [h1, h2, if_false, e0, bnd_eq]
      generalize s.getD 0 0 = b0
      by_cases h3 : (decide (48 ≤ (b0.toNat : Int)) && decide ((b0.toNat : Int) ≤ 57)) = true
      · simp [h3]
      · simp only [h3, if_false]
        by_cases h4 : (b0.toNat : Int) = 45
        · by_cases h5 : (s.length : Int) > 1
          · have hl1 : 1 < s.length := by omega
            have e1 : nth s 1 = some (s.getD 1 0) := by rw [show (1 : Int) = ((1 : Nat) : Int) from rfl, nth_lt hl1]; simp [List.getD, List.getElem?_eq_getElem hl1]
            simp [h4, h5, e1]
          · simp [h4, h5]
        · simp [h4]
theorem s_l1In_eq (x a b : Int) : s_l1In x a b = some (inside x a b) := by
  unfold s_l1In inside
  by_cases h : a ≤ x <;> simp [h]
theorem s_IsSymbol_eq (s : List UInt8) (h : SM s) : s_IsSymbol s = some (isSymbol s) := by
  unfold s_IsSymbol
  have hJ : ∀ b, s_IsSymbol_J1 s b = some (!b && s.all markB) := fun b => by
    unfold s_IsSymbol_J1
    cases b
    · simp [s_IsSymbol_loop s h]
    · rfl
  simp only [hJ, s_l1Digit_eq, bnd_eq, s_l1In_eq]
  unfold isSymbol headBad isDigit inside
  by_cases h1 : (s.length : Int) < 1
  · have h1' : (decide (1 ≤ (s.length : Int))) = false := by simp; omega
    simp [h1, h1']
  · by_cases h2 : (s.length : Int) > 16
    · simp [h1, h2]; omega
    · have hl : 0 < s.length := by omega
      have e0 : nth s 0 = some (s.getD 0 0) := by rw [show (0 : Int) = ((0 : Nat) : Int) from rfl, nth_lt hl]; simp [List.getD, List.getElem?_eq_getElem hl]
      have h1' : 1 ≤ (s.length : Int) := by omega
      have h2' : (s.length : Int) ≤ 16 := by omega
      simp only [h1', h2', h1, h2, decide_true, Bool.and_self, if_true, e0, bnd_eq]
      generalize s.getD 0 0 = b0
      by_cases h3 : (decide (48 ≤ (b0.toNat : Int)) && decide ((b0.toNat : Int) ≤ 57)) = true
      · simp [h3]
      · simp only [h3, if_false]
        by_cases h4 : (b0.toNat : Int) = 45
        · by_cases h5 : (s.length : Int) > 1
          · have hl1 : 1 < s.length := by omega
            have e1 : nth s 1 = some (s.getD 1 0) := by rw [show (1 : Int) = ((1 : Nat) : Int) from rfl, nth_lt hl1]; simp [List.getD, List.getElem?_eq_getElem hl1]
            simp [h4, h5, e1]
          · simp [h4, h5]
        · simp [h4]
theorem i_stringText_eq (s : List UInt8) (h : SM s) : i_stringText s = some (isText s) := by
  unfold i_stringText isText
  have hL : itr (i_stringText_L1 s) LF 0 = some (s.all fun b => !badChar b) := by
    rw [itr_all s (fun b => !badChar b) (some true) (some false) (by unfold SM at h; omega) (fun go i hi => ?_) (fun go => ?_)]
    · cases (s.all fun b => !badChar b) <;> rfl
    · show i_stringText_L1b s go i = _
      unfold i_stringText_L1b SM at *
      simp only [show ((i : Int) < (s.length : Int)) from by omega, if_true, nth_lt hi, bnd_eq]
      rw [chk_t (by omega)]
      unfold badChar
      by_cases h1 : (s[i].toNat : Int) < 32 <;> by_cases h2 : (s[i].toNat : Int) > 126 <;> by_cases h3 : (s[i].toNat : Int) = 34 <;> simp [h1, h2, h3]
    · show i_stringText_L1b s go _ = _
      unfold i_stringText_L1b
      simp
  rw [hL]
  by_cases h1 : (s.length : Int) > 20
  · have : (decide ((s.length : Int) ≤ 20)) = false := by simp; omega
    simp [h1, this]
  · have : (s.length : Int) ≤ 20 := by omega
    simp [h1]; omega
theorem s_l1String_eq (s : List UInt8) (h : SM s) : s_l1String s = some (isText s) := by
  unfold s_l1String isText
  rw [itr_all s (fun b => !badChar b) (some (decide ((s.length : Int) ≤ 20))) (some false) (by unfold SM at h; omega) (fun go i hi => ?_) (fun go => ?_)]
  · cases (s.all fun b => !badChar b) <;> simp
  · show s_l1String_L1b s go i = _
    unfold s_l1String_L1b SM at *
    simp only [show ((i : Int) < (s.length : Int)) from by omega, if_true, nth_lt hi, bnd_eq]
    rw [chk_t (by omega)]
    unfold badChar
    by_cases h1 : (s[i].toNat : Int) < 32 <;> by_cases h2 : (s[i].toNat : Int) > 126 <;> by_cases h3 : (s[i].toNat : Int) = 34 <;> simp [h1, h2, h3]
  · show s_l1String_L1b s go _ = _
    unfold s_l1String_L1b
    simp

/-! ### Nodes -/
theorem i_rightNode_eq (k n : Int) (t : List UInt8) (m : Int) (h : SM t) : i_rightNode k n t m = some (PDat.nodeOK k n t m) := by
  unfold i_rightNode PDat.nodeOK inside
  simp only [i_IsSymbol_eq t h, i_stringText_eq t h, bnd_eq]
  repeat' split
  all_goals simp_all <;> omega
theorem s_l1Node_eq (k n : Int) (t : List UInt8) (m : Int) (h : SM t) : s_l1Node k n t m = some (PDat.nodeOK k n t m) := by
  unfold s_l1Node PDat.nodeOK
  simp only [s_IsSymbol_eq t h, s_l1String_eq t h, s_l1In_eq, bnd_eq]
  repeat' split
  all_goals simp_all <;> omega
end Go.Abs
