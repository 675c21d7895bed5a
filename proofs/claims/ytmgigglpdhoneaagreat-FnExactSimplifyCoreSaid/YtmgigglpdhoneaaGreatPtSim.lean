
import Derived.Test.YtmgigglpdhoneaaGreatLibT
set_option linter.unusedVariables false
set_option linter.unusedSimpArgs false
namespace Go.Abs
open PC
def bxOf (c : PC) (g : LI) : LI := boxd c [] ++ (free c [] [] ++ g)
def simOf (c : PC) : PC × Int := if c.valid = true then passR (bxOf c []) c else (failR.1, 0)
theorem bxOf_len (c : PC) (hw : wK c ≤ 1048576) : (boxd c []).length ≤ 4000000 ∧ (free c [] []).length ≤ 4000000 := by
 have h1 := ad3.1 c []
 have h2 := sK c hw
 simp at h1; omega
theorem i_onePass_eq (c : PC) (hv : c.valid = true) (hw : wK c ≤ 1048576) : lI c [] = some (passR (bxOf c []) c) := by
 unfold lI
 have ho := aj0 hv
 have hcc := zC hv
 have nc := cZ.1 c ho
 have hl := bxOf_len c hw
 rw [oD c nc (by omega) (by omega), f7, fB c nc (by omega), f7]
 rw [i_setOf_eq [boxd c [], free c [] [], []] (by simp) (fun l hl2 => by
  simp only [List.mem_cons, List.not_mem_nil, or_false] at hl2
  rcases hl2 with rfl | rfl | rfl
  ·omega
  ·omega
  ·simp), f7]
 rw [i_pass_eq (bxOf c []) _ (fun k => by rw [xX]; simp [mget_nil, bxOf]) RF c (RF_cntK (by omega)) ho hcc, f7]
theorem sP (c : PC) (hc : c.nice) (hw : wK c ≤ 1048576) : Q7 c = some (simOf c) := by
 unfold Q7 simOf
 rw [zQ c hc hw, f7]
 by_cases h : c.valid = true
 ·rw [if_pos h, if_pos h, i_onePass_eq c h hw, f7]
 ·rw [if_neg h, if_neg h]; rfl
theorem tJ (c : PC) (hc : c.nice) (hw : wK c ≤ 1048576) : X0 c = some (simOf c) := by
 unfold X0 simOf
 rw [s_l5Valid_eq c hc hw, f7]
 by_cases h : c.valid = true
 ·have ho := aj0 h
  have hcc := zC h
  have hl := bxOf_len c hw
  unfold rR
  rw [if_pos h, if_pos h, oX c hc (by omega) (by omega), f7, fL c hc (by omega), f7, m5 (by omega), f7]
  rw [yW (boxd c [] ++ free c [] []) (by rw [List.length_append]; omega) RF c 0 (RF_cntK (by omega)) ho hcc (Int.le_refl _) (by omega), f7]
  have e : bxOf c [] = boxd c [] ++ free c [] [] := by unfold bxOf; rw [List.append_nil]
  rw [e, Int.zero_add]
 ·rw [if_neg h, if_neg h]; rfl
theorem simOf_good (c : PC) : ((simOf c).1).nice ∧ (simOf c).1.cnt ≤ 3000 ∧ wK (simOf c).1 ≤ 40000000 := by
 unfold simOf
 by_cases h : c.valid = true
 ·rw [if_pos h]
  have hcc := zC h
  obtain ⟨g1, g2, g3⟩ := (aZ (bxOf c [])).1 c (aj0 h)
  exact ⟨cZ.1 _ g1, by omega, ok_w g1 (by omega)⟩
 ·rw [if_neg h]
  obtain ⟨b1, b2, b3⟩ : bare failR.1 := bare_dat _ _ _ _
  exact ⟨b1, by show failR.1.cnt ≤ _; omega, by show wK failR.1 ≤ _; omega⟩
set_option maxRecDepth 20000 in
theorem eZ (c : PC) (hc : c.wf) : K4 c = some true := by
 unfold K4
 rw [(w_szK_eq RF).1 c hc _ (by omega) (by omega) (by rw [RF_eq]; omega), f7]
 by_cases h : szw (wK c) 1048576 < 0
 ·rw [if_pos h]
 have f := szw_pos h
 rw [if_neg h]
 have wc : wK c ≤ 1048576 := by omega
 have nc : c.nice := nice_wK.1 c wc
 have cc := kX.1 c
 have hb := simOf_good c
 have es := tJ c nc wc
 have ei := sP c nc wc
 generalize simOf c = r at hb es ei
 obtain ⟨nr, cr, wr⟩ := hb
 have m1 := xU c 1 nc (by omega) (by omega) (by omega)
 have l1 := endK_le 1 c
 have m3 := xU r.1 1 nr (by omega) (by omega) (by omega)
 have l3 := endK_le 1 r.1
 have h1 := heldCore_eq r.1.kind r.1.number r.1.datum.kind r.1.datum.number r.1.datum.text r.1 1 nr (by omega) (by omega) (by omega)
 rw [toCore_eq nc (by omega), f7, es, f7, f7, ei, f7, wP nr (by omega), f7, if_pos rfl, if_pos rfl, f7, wP nc (by omega), f7, if_pos rfl, m1, f7]
 refine (m5 (mP_len _ _)).trans ((m5 (mQ_len _ _)).trans ((m5 (mR_len _ _)).trans ?_))
 refine (if_neg (by show ¬ endK 1 c < 0; omega)).trans ?_
 rw [f7, if_pos rfl, if_pos rfl, m3, f7]
 refine (m5 (mP_len _ _)).trans ((m5 (mQ_len _ _)).trans ((m5 (mR_len _ _)).trans ?_))
 rw [h1]
 simp only [f7]
 rw [if_neg (by omega), if_pos trivial, ei, f7, wP nr (by omega), f7, if_pos rfl, if_pos rfl, if_neg (by omega), if_pos trivial]
end Go.Abs
