
import Derived.Test.YtmgigglpdhoneaaGreatLibT
set_option linter.unusedVariables false
set_option linter.unusedSimpArgs false
namespace Go.Abs
open PC
def optOf (c : PC) : PC × Int := if c.valid = true then optR [] (c.cnt + 1) c 0 else (failR.1, 0)
theorem sY (c : PC) (hc : c.nice) (hw : wK c ≤ 1048576) : R6 c = some (optOf c) := by
 unfold R6 optOf
 rw [aa4 c hc hw, g9]
 by_cases h : c.valid = true
 ·rw [if_pos h, if_pos h, aa1 c [] (ak0 h) (zQ h) (by simp), g9]
 ·rw [if_neg h, if_neg h]; rfl
theorem tS (c : PC) (hc : c.nice) (hw : wK c ≤ 1048576) : X6 c = some (optOf c) := by
 unfold X6 optOf
 rw [s_l5Valid_eq c hc hw, g9]
 by_cases h : c.valid = true
 ·rw [if_pos h, if_pos h, zG c [] (ak0 h) (zQ h) (by simp), g9]
 ·rw [if_neg h, if_neg h]; rfl
theorem optOf_good (c : PC) : ((optOf c).1).nice ∧ (optOf c).1.cnt ≤ 3000 ∧ wK (optOf c).1 ≤ 40000000 := by
 unfold optOf
 by_cases h : c.valid = true
 ·rw [if_pos h]
  have hcc := zQ h
  obtain ⟨g1, g2, g3⟩ := optR_good [] c.cnt c 0 (ak0 h) (Nat.le_refl _) (Int.le_refl _)
  exact ⟨bV.1 _ g1, by omega, ok_w g1 (by omega)⟩
 ·rw [if_neg h]
  obtain ⟨b1, b2, b3⟩ : bare failR.1 := bare_dat _ _ _ _
  exact ⟨b1, by show failR.1.cnt ≤ _; omega, by show wK failR.1 ≤ _; omega⟩
set_option maxRecDepth 20000 in
theorem fI (c : PC) (hc : c.wf) : L5 c = some true := by
 unfold L5
 rw [(w_szK_eq RF).1 c hc _ (by omega) (by omega) (by rw [RF_eq]; omega), g9]
 by_cases h : szw (wK c) 1048576 < 0
 ·rw [if_pos h]
 have f := szw_pos h
 rw [if_neg h]
 have wc : wK c ≤ 1048576 := by omega
 have nc : c.nice := nice_wK.1 c wc
 have cc := lL.1 c
 have hb := optOf_good c
 have es := tS c nc wc
 have ei := sY c nc wc
 generalize optOf c = r at hb es ei
 obtain ⟨nr, cr, wr⟩ := hb
 have m1 := yF c 1 nc (by omega) (by omega) (by omega)
 have l1 := endK_le 1 c
 have m3 := yF r.1 1 nr (by omega) (by omega) (by omega)
 have l3 := endK_le 1 r.1
 have h1 := heldCore_eq r.1.kind r.1.number r.1.datum.kind r.1.datum.number r.1.datum.text r.1 1 nr (by omega) (by omega) (by omega)
 rw [toCore_eq nc (by omega), g9, es, g9, g9, ei, g9, xA nr (by omega), g9, if_pos rfl, if_pos rfl, g9, xA nc (by omega), g9, if_pos rfl, m1, g9]
 refine (m8 (mP_len _ _)).trans ((m8 (mQ_len _ _)).trans ((m8 (mR_len _ _)).trans ?_))
 refine (if_neg (by show ¬ endK 1 c < 0; omega)).trans ?_
 rw [g9, if_pos rfl, if_pos rfl, m3, g9]
 refine (m8 (mP_len _ _)).trans ((m8 (mQ_len _ _)).trans ((m8 (mR_len _ _)).trans ?_))
 rw [h1]
 simp only [g9]
 rw [if_neg (by omega), if_pos trivial, ei, g9, xA nr (by omega), g9, if_pos rfl, if_pos rfl, if_neg (by omega), if_pos trivial]
end Go.Abs
