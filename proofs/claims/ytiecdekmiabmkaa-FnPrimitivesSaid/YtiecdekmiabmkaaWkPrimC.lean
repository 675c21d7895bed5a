/-
  The walks: which primitives are pure; their numbers of arguments.
-/
import Derived.Test.YtiecdekmiabmkaaWkPrimA
set_option linter.unusedVariables false
set_option linter.unusedSimpArgs false
namespace Go.Proofs.Ytiecdekmiabmkaa
open Go.Abs
attribute [local irreducible] AT AOps FC AQ
set_option maxRecDepth 4000
set_option maxHeartbeats 2000000

attribute [local irreducible] primRows in
theorem isPure_ok (p : Int) : FC Try.prog 54 [.int .i64 p] [] 3 (fun x _ => x = .bool (isPrim p)) := by
  have hpr : primRows.length = 14 := primRows_len
  have hrow : 0 ≤ p ∧ p ≤ 13 → primRows[p.toNat]? = some [V.str (primTexts.getD p.toNat [])] := prim_row
  have h5 : 0 ≤ p ∧ p ≤ 13 → (primTexts.getD p.toNat [] = [99, 111, 110, 115] ↔ p = 5) := fun hp => prim_iff hp 5 (by decide)
  have h13 : 0 ≤ p ∧ p ≤ 13 → (primTexts.getD p.toNat [] = [100, 105, 115, 112, 108, 97, 121] ↔ p = 13) := fun hp => prim_iff hp 13 (by decide)
  generalize primTexts.getD p.toNat [] = nm at hrow h5 h13
  refine fc_body tabOK Try.func54 rfl Try.ntmps54 rfl rfl rfl ?_
  repeat' first
    | refine at_seq ?_
    | refine at_region ?_
    | refine aops_nil ?_
    | refine at_skip ?_
    | refine at_block ?_
    | refine sxs tabOK rfl ?_
    | (refine isOps ?_
       first
       | refine call_eq PrimitiveNames_ok rfl rfl rl_prim rfl ?_
       | refine sv rfl (ov_addr tabOK rfl rfl rfl rfl (by omega) (hrow (by omega))) rfl ?_
       | (refine isLen ?_; refine sv rfl (ov_mlen tabOK rfl rfl rfl) rfl ?_)
       | (refine isBin ?_
          first
          | refine s_add tabOK rfl rfl rfl (by omega) rfl ?_
          | refine s_sub tabOK rfl rfl rfl (by omega) rfl ?_)
       | refine sx tabOK rfl ?_
       | (refine isGuard ?_
          first
          | refine s_splitT rfl rfl rfl (fun h => ?_) (fun h => ?_)
          | refine s_splitF rfl rfl rfl (fun h => ?_) (fun h => ?_)
          | refine s_splitTn rfl rfl rfl (fun h => ?_) (fun h => ?_)
          | refine s_splitFn rfl rfl rfl (fun h => ?_) (fun h => ?_)
          | refine s_split rfl rfl rfl (fun h => ?_) (fun h => ?_)))
    | (refine isCond ?_
       first
       | refine at_true rfl ?_
       | refine at_false rfl ?_
       | refine at_iftd rfl (fun h => ?_) (fun h => ?_)
       | refine at_iftn rfl (fun h => ?_) (fun h => ?_)
       | refine at_ift rfl (fun h => ?_) (fun h => ?_)
       | refine at_ifd rfl (fun h => ?_) (fun h => ?_)
       | refine at_ifn rfl (fun h => ?_) (fun h => ?_)
       | refine at_cond rfl (fun h => ?_) (fun h => ?_))
    | refine at_ret ?_
    | refine at_exit ?_
    | refine bk_hit ?_
    | refine bk_miss rfl ?_
    | refine ret_eq rfl ?_
  all_goals refine congrArg V.bool ?_
  all_goals try simp only [h5 (by omega), h13 (by omega)] at *
  all_goals (simp_all [isPrim, inside]; try omega)

theorem spec_ArityOf_ok (p : Int) : FC Try.prog 67 [.int .i64 p] [] 3 (fun x _ => x = .int .i64 (arity p)) := by
  by_cases hp : 0 ≤ p ∧ p ≤ 13
  · have : p = 0 ∨ p = 1 ∨ p = 2 ∨ p = 3 ∨ p = 4 ∨ p = 5 ∨ p = 6 ∨ p = 7 ∨ p = 8 ∨ p = 9 ∨ p = 10 ∨ p = 11 ∨ p = 12 ∨ p = 13 := by omega
    rcases this with rfl | rfl | rfl | rfl | rfl | rfl | rfl | rfl | rfl | rfl | rfl | rfl | rfl | rfl
    all_goals refine fc_body tabOK Try.func67 rfl Try.ntmps67 rfl rfl rfl ?_
    repeat' first
      | refine at_seq ?_
      | refine at_region ?_
      | refine aops_nil ?_
      | refine at_skip ?_
      | refine at_block ?_
      | refine sxs tabOK rfl ?_
      | (refine isOps ?_
         first
         | refine call_eq sPrimitiveNames_ok rfl rfl rl_prim rfl ?_
         | refine call_eq (l1In_ok _ 0 13) rfl rfl rfl rfl ?_
         | refine s_slit tabOK rfl rfl rfl rfl rfl rfl rfl ?_
         | refine sv rfl (ov_haddr tabOK rfl rfl rfl rfl rfl (by decide)) rfl ?_
         | (refine isLen ?_; refine sv rfl (ov_mlen tabOK rfl rfl rfl) rfl ?_)
         | (refine isBin ?_
            first
            | refine s_add tabOK rfl rfl rfl (by omega) rfl ?_
            | refine s_sub tabOK rfl rfl rfl (by omega) rfl ?_)
         | refine sx tabOK rfl ?_
         | (refine isGuard ?_
            first
            | refine s_splitT rfl rfl rfl (fun h => ?_) (fun h => ?_)
            | refine s_splitF rfl rfl rfl (fun h => ?_) (fun h => ?_)
            | refine s_splitTn rfl rfl rfl (fun h => ?_) (fun h => ?_)
            | refine s_splitFn rfl rfl rfl (fun h => ?_) (fun h => ?_)
            | refine s_split rfl rfl rfl (fun h => ?_) (fun h => ?_)))
      | (refine isCond ?_
         first
         | refine at_true rfl ?_
         | refine at_false rfl ?_
         | refine at_iftd rfl (fun h => ?_) (fun h => ?_)
         | refine at_iftn rfl (fun h => ?_) (fun h => ?_)
         | refine at_ift rfl (fun h => ?_) (fun h => ?_)
         | refine at_ifd rfl (fun h => ?_) (fun h => ?_)
         | refine at_ifn rfl (fun h => ?_) (fun h => ?_)
         | refine at_cond rfl (fun h => ?_) (fun h => ?_))
      | refine at_ret ?_
      | refine at_exit ?_
      | refine bk_hit ?_
      | refine bk_miss rfl ?_
      | refine ret_eq rfl ?_
    all_goals rfl
  · have h1 : inside p 0 13 = false := by
      simp only [inside, Bool.and_eq_false_iff, decide_eq_false_iff_not]; omega
    refine fc_body tabOK Try.func67 rfl Try.ntmps67 rfl rfl rfl ?_
    repeat' first
      | refine at_seq ?_
      | refine at_region ?_
      | refine aops_nil ?_
      | refine at_skip ?_
      | refine at_block ?_
      | refine sxs tabOK rfl ?_
      | (refine isOps ?_
         first
         | refine call_eq sPrimitiveNames_ok rfl rfl rl_prim rfl ?_
         | refine call_eq (l1In_ok p 0 13) rfl rfl rfl rfl ?_
         | (refine isLen ?_; refine sv rfl (ov_mlen tabOK rfl rfl rfl) rfl ?_)
         | (refine isBin ?_
            first
            | refine s_add tabOK rfl rfl rfl (by omega) rfl ?_
            | refine s_sub tabOK rfl rfl rfl (by omega) rfl ?_)
         | refine sx tabOK rfl ?_
         | (refine isGuard ?_
            first
            | refine s_splitT rfl rfl rfl (fun h => ?_) (fun h => ?_)
            | refine s_splitF rfl rfl rfl (fun h => ?_) (fun h => ?_)
            | refine s_splitTn rfl rfl rfl (fun h => ?_) (fun h => ?_)
            | refine s_splitFn rfl rfl rfl (fun h => ?_) (fun h => ?_)
            | refine s_split rfl rfl rfl (fun h => ?_) (fun h => ?_)))
      | (refine isCond ?_
         first
         | refine at_true rfl ?_
         | refine at_false rfl ?_
         | refine at_iftd rfl (fun h => ?_) (fun h => ?_)
         | refine at_iftn rfl (fun h => ?_) (fun h => ?_)
         | refine at_ift rfl (fun h => ?_) (fun h => ?_)
         | refine at_ifd rfl (fun h => ?_) (fun h => ?_)
         | refine at_ifn rfl (fun h => ?_) (fun h => ?_)
         | refine at_cond rfl (fun h => ?_) (fun h => ?_))
      | refine at_ret ?_
      | refine at_exit ?_
      | refine bk_hit ?_
      | refine bk_miss rfl ?_
      | refine ret_eq rfl ?_
    · simp [arity, h1]
    all_goals simp_all

attribute [local irreducible] primRows in
theorem ArityOf_ok (p : Int) : FC Try.prog 55 [.int .i64 p] [] 3 (fun x _ => x = .int .i64 (arity p)) := by
  have hpr : primRows.length = 14 := primRows_len
  by_cases hp : 0 ≤ p ∧ p ≤ 13
  · have hrow := prim_row hp
    have n0 : TextIs (primTexts.getD p.toNat []) [43] p 0 := ⟨prim_iff hp 0 (by decide)⟩
    have n1 : TextIs (primTexts.getD p.toNat []) [45] p 1 := ⟨prim_iff hp 1 (by decide)⟩
    have n2 : TextIs (primTexts.getD p.toNat []) [42] p 2 := ⟨prim_iff hp 2 (by decide)⟩
    have n3 : TextIs (primTexts.getD p.toNat []) [61] p 3 := ⟨prim_iff hp 3 (by decide)⟩
    have n4 : TextIs (primTexts.getD p.toNat []) [60] p 4 := ⟨prim_iff hp 4 (by decide)⟩
    have n5 : TextIs (primTexts.getD p.toNat []) [99, 111, 110, 115] p 5 := ⟨prim_iff hp 5 (by decide)⟩
    have n11 : TextIs (primTexts.getD p.toNat []) [101, 113, 63] p 11 := ⟨prim_iff hp 11 (by decide)⟩
    generalize primTexts.getD p.toNat [] = nm at hrow n0 n1 n2 n3 n4 n5 n11
    have e1 : inside p 0 13 = true := by simp only [inside, Bool.and_eq_true, decide_eq_true_eq]; omega
    refine fc_body tabOK Try.func55 rfl Try.ntmps55 rfl rfl rfl ?_
    repeat' first
      | refine at_seq ?_
      | refine at_region ?_
      | refine aops_nil ?_
      | refine at_skip ?_
      | refine at_block ?_
      | (refine isBin ?_
         first
         | refine sv rfl (ov_siff tabOK rfl rfl (by assumption)) rfl ?_)
      | refine sxs tabOK rfl ?_
      | (refine isOps ?_
         first
         | refine call_eq PrimitiveNames_ok rfl rfl rl_prim rfl ?_
         | refine sv rfl (ov_addr tabOK rfl rfl rfl rfl (by omega) hrow) rfl ?_
         | (refine isLen ?_; refine sv rfl (ov_mlen tabOK rfl rfl rfl) rfl ?_)
         | (refine isBin ?_
            first
            | refine s_add tabOK rfl rfl rfl (by omega) rfl ?_
            | refine s_sub tabOK rfl rfl rfl (by omega) rfl ?_)
         | refine sx tabOK rfl ?_
         | (refine isGuard ?_
            first
            | refine s_splitT rfl rfl rfl (fun h => ?_) (fun h => ?_)
            | refine s_splitF rfl rfl rfl (fun h => ?_) (fun h => ?_)
            | refine s_splitTn rfl rfl rfl (fun h => ?_) (fun h => ?_)
            | refine s_splitFn rfl rfl rfl (fun h => ?_) (fun h => ?_)
            | refine s_split rfl rfl rfl (fun h => ?_) (fun h => ?_)))
      | (refine isCond ?_
         first
         | refine at_true rfl ?_
         | refine at_false rfl ?_
         | refine at_iftd rfl (fun h => ?_) (fun h => ?_)
         | refine at_iftn rfl (fun h => ?_) (fun h => ?_)
         | refine at_ift rfl (fun h => ?_) (fun h => ?_)
         | refine at_ifd rfl (fun h => ?_) (fun h => ?_)
         | refine at_ifn rfl (fun h => ?_) (fun h => ?_)
         | refine at_cond rfl (fun h => ?_) (fun h => ?_))
      | refine at_ret ?_
      | refine at_exit ?_
      | refine bk_hit ?_
      | refine bk_miss rfl ?_
      | refine ret_eq rfl ?_
    all_goals refine congrArg (V.int .i64) ?_
    all_goals (unfold arity; rw [e1]; (try simp only [if_true]); first | (exfalso; omega) | rw [if_pos (by omega)] | rw [if_neg (by omega)])
  · have e1 : inside p 0 13 = false := by simp only [inside, Bool.and_eq_false_iff, decide_eq_false_iff_not]; omega
    refine fc_body tabOK Try.func55 rfl Try.ntmps55 rfl rfl rfl ?_
    repeat' first
      | refine at_seq ?_
      | refine at_region ?_
      | refine aops_nil ?_
      | refine at_skip ?_
      | refine at_block ?_
      | refine sxs tabOK rfl ?_
      | (refine isOps ?_
         first
         | refine call_eq PrimitiveNames_ok rfl rfl rl_prim rfl ?_
         | (refine isLen ?_; refine sv rfl (ov_mlen tabOK rfl rfl rfl) rfl ?_)
         | (refine isBin ?_
            first
            | refine s_add tabOK rfl rfl rfl (by omega) rfl ?_
            | refine s_sub tabOK rfl rfl rfl (by omega) rfl ?_)
         | refine sx tabOK rfl ?_
         | (refine isGuard ?_
            first
            | refine s_splitT rfl rfl rfl (fun h => ?_) (fun h => ?_)
            | refine s_splitF rfl rfl rfl (fun h => ?_) (fun h => ?_)
            | refine s_splitTn rfl rfl rfl (fun h => ?_) (fun h => ?_)
            | refine s_splitFn rfl rfl rfl (fun h => ?_) (fun h => ?_)
            | refine s_split rfl rfl rfl (fun h => ?_) (fun h => ?_)))
      | (refine isCond ?_
         first
         | refine at_true rfl ?_
         | refine at_false rfl ?_
         | refine at_iftd rfl (fun h => ?_) (fun h => ?_)
         | refine at_iftn rfl (fun h => ?_) (fun h => ?_)
         | refine at_ift rfl (fun h => ?_) (fun h => ?_)
         | refine at_ifd rfl (fun h => ?_) (fun h => ?_)
         | refine at_ifn rfl (fun h => ?_) (fun h => ?_)
         | refine at_cond rfl (fun h => ?_) (fun h => ?_))
      | refine at_ret ?_
      | refine at_exit ?_
      | refine bk_hit ?_
      | refine bk_miss rfl ?_
      | refine ret_eq rfl ?_
    all_goals first | (exfalso; omega) | simp [arity, e1]

end Go.Proofs.Ytiecdekmiabmkaa
