
import Derived.Test.YtmgigglpdhoneaaLibT
set_option linter.unusedVariables false
set_option linter.unusedSimpArgs false
namespace Go.Abs
open PCore
theorem markDatum_eq (d : PDat) (k : Int) (h : wD d ≤ 1048576) (h0 : 0 ≤ k) (h1 : k + 6 * (wD d : Int) ≤ 1000000000000) : w_markDatum d k = some (mAll mD k d.items) := by
 unfold w_markDatum
 have hwd := be5 d
 have hcw := bd0.2 d.items
 rw [as6 RF _ _ (by rw [RF_eq]; omega) (by omega) h0 (by omega), ac7]
 exact ae6 (ai4 mD d.items _)
theorem heldDatum_eq (k n : Int) (t : List UInt8) (is : List PDat) (k1 : Int) (h : wDs is ≤ 1048576) (h0 : 0 ≤ k1) (h1 : k1 + 6 * (wDs is : Int) ≤ 1000000000000) : w_heldDatum (PDat.mk k n t (mAll mD k1 is).2) k1 = some (mAll mD k1 is).1 := by
 unfold w_heldDatum
 have hcw := bd0.2 is
 have hle := mD_le.2 is k1
 rw [az7, as2 RF _ _ (by rw [RF_eq]; omega) (by omega) h0 (by omega), ac7, if_neg (by omega)]
def mR (k : Int) (c : PCore) := mAll mK k c.kids
theorem mR_le (k : Int) (c : PCore) : k ≤ (mR k c).1 ∧ (mR k c).1 ≤ k + 6 * (wKs c.kids : Int) := mK_le.2 c.kids k
def endK (k : Int) (c : PCore) : Int := (mR (mQ (mP k c).1 c).1 c).1
theorem endK_le (k : Int) (c : PCore) : k ≤ endK k c ∧ endK k c ≤ k + 6 * (wK c : Int) := by
 have h1 := mP_le k c
 have h2 := mQ_le (mP k c).1 c
 have h3 := mR_le (mQ (mP k c).1 c).1 c
 have h4 := au9 c
 unfold endK; omega
theorem ax3 (c : PCore) (k : Int) (hc : c.nice) (hcc : c.cnt ≤ 1000000000000) (h0 : 0 ≤ k) (h1 : k + 6 * (wK c : Int) ≤ 1000000000000) : w_markCore c k = some (endK k c, (mP k c).2, (mQ (mP k c).1 c).2, (mR (mQ (mP k c).1 c).1 c).2) := by
 unfold w_markCore
 have hn := (ah2 c).1 hc
 have hp := mP_le k c
 have hq := mQ_le (mP k c).1 c
 have hr := mR_le (mQ (mP k c).1 c).1 c
 have hw := au9 c
 have hci := PCore.cnt_eq c
 refine (congrArg (bnd · _) (bj1 _ _ hn.1 h0 (by omega))).trans ?_
 rw [ac7]
 refine (ae6 (ai4 mI c.params _)).trans ?_
 refine (congrArg (bnd · _) (markDatum_eq c.datum (mP k c).1 hn.2.1 (by omega) (by omega))).trans ?_
 rw [ac7]
 refine (ae6 (ai4 mD c.datum.items _)).trans ?_
 refine (congrArg (bnd · _) (bd6 RF c.kids (mQ (mP k c).1 c).1 (by rw [RF_eq]; omega) hn.2.2.2 hn.2.2.1 (by omega) (by omega))).trans ?_
 rw [ac7]
 exact ae6 (ai4 mK c.kids _)
theorem heldCore_eq (kd n dk dn : Int) (dt : List UInt8) (c : PCore) (k : Int) (hc : c.nice) (hcc : c.cnt ≤ 1000000000000) (h0 : 0 ≤ k) (h1 : k + 6 * (wK c : Int) ≤ 1000000000000) : w_heldCore (PCore.mk kd n (mP k c).2 (PDat.mk dk dn dt (mQ (mP k c).1 c).2) (mR (mQ (mP k c).1 c).1 c).2) k = some (endK k c) := by
 unfold w_heldCore
 have hn := (ah2 c).1 hc
 have hp := mP_le k c
 have hq := mQ_le (mP k c).1 c
 have hr := mR_le (mQ (mP k c).1 c).1 c
 have hw := au9 c
 have hwd := be5 c.datum
 have hci := PCore.cnt_eq c
 simp only [kK]
 refine (congrArg (bnd · _) (bi2 c.params k hn.1 h0 (by omega))).trans ?_
 rw [ac7]
 refine (if_neg (by show ¬ (mP k c).1 < 0; omega)).trans ?_
 refine (congrArg (bnd · _) (heldDatum_eq dk dn dt c.datum.items (mP k c).1 (by omega) (by omega) (by omega))).trans ?_
 rw [ac7]
 refine (if_neg (by show ¬ (mQ (mP k c).1 c).1 < 0; omega)).trans ?_
 refine (congrArg (bnd · _) (bd3 RF c.kids (mQ (mP k c).1 c).1 (by rw [RF_eq]; omega) hn.2.2.2 hn.2.2.1 (by omega) (by omega))).trans ?_
 rw [ac7]
 exact if_neg (by show ¬ (mR (mQ (mP k c).1 c).1 c).1 < 0; omega)
theorem mP_len (k : Int) (c : PCore) : (mP k c).2.length = c.params.length := ai4 _ _ _
theorem mQ_len (k : Int) (c : PCore) : (mQ k c).2.length = c.datum.items.length := ai4 _ _ _
theorem mR_len (k : Int) (c : PCore) : (mR k c).2.length = c.kids.length := ai4 _ _ _
set_option maxRecDepth 20000 in
theorem ao5 (c : PCore) (x : Int) (s : PCore) (hc : c.wf) (_ : IntKind.i64.min ≤ x ∧ x ≤ IntKind.i64.max) (hs : s.wf) : w_FnExactSubstituteCore c x s = some true := by
 unfold w_FnExactSubstituteCore
 rw [(bs6 RF).1 c hc _ (by omega) (by omega) (by rw [RF_eq]; omega), ac7]
 by_cases h : szw (wK c) 1048576 < 0
 ·rw [if_pos h]
 have f := bs3 h
 rw [if_neg h, (bs6 RF).1 s hs _ (by omega) (by omega) (by rw [RF_eq]; omega), ac7]
 by_cases g : szw (wK s) (szw (wK c) 1048576) < 0
 ·rw [if_pos g]
 have f2 := bs3 g
 rw [if_neg g]
 have wc : wK c ≤ 1048576 := by omega
 have ws : wK s ≤ 1048576 := by omega
 have nc : c.nice := nice_wK.1 c wc
 have ns : s.nice := nice_wK.1 s ws
 have cc := ap3.1 c
 have cs := ap3.1 s
 obtain ⟨nr, cr, wr⟩ := subOf_bound c x s nc wc ns ws
 have m1 := ax3 c 1 nc (by omega) (by omega) (by omega)
 have l1 := endK_le 1 c
 have m2 := ax3 s (endK 1 c) ns (by omega) (by omega) (by omega)
 have l2 := endK_le (endK 1 c) s
 have m3 := ax3 (subOf c x s) 1 nr (by omega) (by omega) (by omega)
 have l3 := endK_le 1 (subOf c x s)
 have h1 := heldCore_eq (subOf c x s).kind (subOf c x s).number (subOf c x s).datum.kind (subOf c x s).datum.number (subOf c x s).datum.text (subOf c x s) 1 nr (by omega) (by omega) (by omega)
 rw [toCore_eq nc (by omega), ac7, toCore_eq ns (by omega), ac7, ax6 c x s nc wc ns ws, ac7, ac7, ac7, ap7 c x s nc wc ns ws, ac7, ay4 nr (by omega), ac7, if_pos rfl, ac7, ay4 nc (by omega), ac7, if_pos rfl, ac7, ay4 ns (by omega), ac7, if_pos rfl, m1, ac7]
 refine (ae6 (mP_len _ _)).trans ((ae6 (mQ_len _ _)).trans ((ae6 (mR_len _ _)).trans ?_))
 refine (congrArg (bnd · _) m2).trans ?_
 rw [ac7]
 refine (ae6 (mP_len _ _)).trans ((ae6 (mQ_len _ _)).trans ((ae6 (mR_len _ _)).trans ?_))
 refine (if_neg (by show ¬ endK (endK 1 c) s < 0; omega)).trans ?_
 rw [ac7, if_pos rfl, m3, ac7]
 refine (ae6 (mP_len _ _)).trans ((ae6 (mQ_len _ _)).trans ((ae6 (mR_len _ _)).trans ?_))
 rw [h1]
 simp only [ac7]
 rw [if_neg (by omega), if_pos trivial, ap7 c x s nc wc ns ws, ac7, ay4 nr (by omega), ac7, if_pos rfl, if_neg (by omega), if_pos trivial]
end Go.Abs
