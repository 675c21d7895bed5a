/-
  The walks: primitives, the small parts.
-/
import Derived.Test.YtiecdekmiabmkaaWkVals
import Derived.Test.YtiecdekmiabmkaaAbsO
set_option linter.unusedVariables false
set_option linter.unusedSimpArgs false
namespace Go.Proofs.Ytiecdekmiabmkaa
open Go.Abs
attribute [local irreducible] AT AOps FC AQ
set_option maxRecDepth 4000
set_option maxHeartbeats 2000000

theorem booleanOf_ok (b : Bool) : FC Try.prog 98 [.bool b] [] 3 (fun x _ => x = .agg (boolVal b).enc) := by
  cases b
  · refine fc_body tabOK Try.func98 rfl Try.ntmps98 rfl rfl rfl ?_
    repeat' first
      | refine at_seq ?_
      | refine at_region ?_
      | refine aops_nil ?_
      | refine at_skip ?_
      | refine at_block ?_
      | refine sxs tabOK rfl ?_
      | (refine isOps ?_
         first
         | refine sv rfl (ov_build tabOK rfl rfl) rfl ?_
         | (refine isLen ?_; refine sv rfl (ov_mlen tabOK rfl rfl rfl) rfl ?_)
         | (refine isBin ?_
            first
            | refine s_add tabOK rfl rfl rfl (by omega) rfl ?_
            | refine s_sub tabOK rfl rfl rfl (by omega) rfl ?_)
         | refine sx tabOK rfl ?_
         | (refine isGuard ?_
            first
            | refine s_splitT rfl rfl rfl (fun h => ?_) (fun h => ?_)
            | refine s_splitF rfl rfl rfl (fun h => ?_) (fun h => ?_)
            | refine s_splitTn rfl rfl rfl (fun h => ?_) (fun h => ?_)
            | refine s_splitFn rfl rfl rfl (fun h => ?_) (fun h => ?_)
            | refine s_split rfl rfl rfl (fun h => ?_) (fun h => ?_)))
      | (refine isCond ?_
         first
         | refine at_true rfl ?_
         | refine at_false rfl ?_
         | refine at_iftd rfl (fun h => ?_) (fun h => ?_)
         | refine at_iftn rfl (fun h => ?_) (fun h => ?_)
         | refine at_ift rfl (fun h => ?_) (fun h => ?_)
         | refine at_ifd rfl (fun h => ?_) (fun h => ?_)
         | refine at_ifn rfl (fun h => ?_) (fun h => ?_)
         | refine at_cond rfl (fun h => ?_) (fun h => ?_))
      | refine at_ret ?_
      | refine at_exit ?_
      | refine bk_hit ?_
      | refine bk_miss rfl ?_
      | refine ret_eq rfl ?_
    rfl
  · refine fc_body tabOK Try.func98 rfl Try.ntmps98 rfl rfl rfl ?_
    repeat' first
      | refine at_seq ?_
      | refine at_region ?_
      | refine aops_nil ?_
      | refine at_skip ?_
      | refine at_block ?_
      | refine sxs tabOK rfl ?_
      | (refine isOps ?_
         first
         | refine sv rfl (ov_build tabOK rfl rfl) rfl ?_
         | (refine isLen ?_; refine sv rfl (ov_mlen tabOK rfl rfl rfl) rfl ?_)
         | (refine isBin ?_
            first
            | refine s_add tabOK rfl rfl rfl (by omega) rfl ?_
            | refine s_sub tabOK rfl rfl rfl (by omega) rfl ?_)
         | refine sx tabOK rfl ?_
         | (refine isGuard ?_
            first
            | refine s_splitT rfl rfl rfl (fun h => ?_) (fun h => ?_)
            | refine s_splitF rfl rfl rfl (fun h => ?_) (fun h => ?_)
            | refine s_splitTn rfl rfl rfl (fun h => ?_) (fun h => ?_)
            | refine s_splitFn rfl rfl rfl (fun h => ?_) (fun h => ?_)
            | refine s_split rfl rfl rfl (fun h => ?_) (fun h => ?_)))
      | (refine isCond ?_
         first
         | refine at_true rfl ?_
         | refine at_false rfl ?_
         | refine at_iftd rfl (fun h => ?_) (fun h => ?_)
         | refine at_iftn rfl (fun h => ?_) (fun h => ?_)
         | refine at_ift rfl (fun h => ?_) (fun h => ?_)
         | refine at_ifd rfl (fun h => ?_) (fun h => ?_)
         | refine at_ifn rfl (fun h => ?_) (fun h => ?_)
         | refine at_cond rfl (fun h => ?_) (fun h => ?_))
      | refine at_ret ?_
      | refine at_exit ?_
      | refine bk_hit ?_
      | refine bk_miss rfl ?_
      | refine ret_eq rfl ?_
    rfl

theorem l8Bool_ok (b : Bool) : FC Try.prog 107 [.bool b] [] 3 (fun x _ => x = .agg (boolVal b).enc) := by
  cases b
  · refine fc_body tabOK Try.func107 rfl Try.ntmps107 rfl rfl rfl ?_
    repeat' first
      | refine at_seq ?_
      | refine at_region ?_
      | refine aops_nil ?_
      | refine at_skip ?_
      | refine at_block ?_
      | refine sxs tabOK rfl ?_
      | (refine isOps ?_
         first
         | refine sv rfl (ov_build tabOK rfl rfl) rfl ?_
         | (refine isLen ?_; refine sv rfl (ov_mlen tabOK rfl rfl rfl) rfl ?_)
         | (refine isBin ?_
            first
            | refine s_add tabOK rfl rfl rfl (by omega) rfl ?_
            | refine s_sub tabOK rfl rfl rfl (by omega) rfl ?_)
         | refine sx tabOK rfl ?_
         | (refine isGuard ?_
            first
            | refine s_splitT rfl rfl rfl (fun h => ?_) (fun h => ?_)
            | refine s_splitF rfl rfl rfl (fun h => ?_) (fun h => ?_)
            | refine s_splitTn rfl rfl rfl (fun h => ?_) (fun h => ?_)
            | refine s_splitFn rfl rfl rfl (fun h => ?_) (fun h => ?_)
            | refine s_split rfl rfl rfl (fun h => ?_) (fun h => ?_)))
      | (refine isCond ?_
         first
         | refine at_true rfl ?_
         | refine at_false rfl ?_
         | refine at_iftd rfl (fun h => ?_) (fun h => ?_)
         | refine at_iftn rfl (fun h => ?_) (fun h => ?_)
         | refine at_ift rfl (fun h => ?_) (fun h => ?_)
         | refine at_ifd rfl (fun h => ?_) (fun h => ?_)
         | refine at_ifn rfl (fun h => ?_) (fun h => ?_)
         | refine at_cond rfl (fun h => ?_) (fun h => ?_))
      | refine at_ret ?_
      | refine at_exit ?_
      | refine bk_hit ?_
      | refine bk_miss rfl ?_
      | refine ret_eq rfl ?_
    rfl
  · refine fc_body tabOK Try.func107 rfl Try.ntmps107 rfl rfl rfl ?_
    repeat' first
      | refine at_seq ?_
      | refine at_region ?_
      | refine aops_nil ?_
      | refine at_skip ?_
      | refine at_block ?_
      | refine sxs tabOK rfl ?_
      | (refine isOps ?_
         first
         | refine sv rfl (ov_build tabOK rfl rfl) rfl ?_
         | (refine isLen ?_; refine sv rfl (ov_mlen tabOK rfl rfl rfl) rfl ?_)
         | (refine isBin ?_
            first
            | refine s_add tabOK rfl rfl rfl (by omega) rfl ?_
            | refine s_sub tabOK rfl rfl rfl (by omega) rfl ?_)
         | refine sx tabOK rfl ?_
         | (refine isGuard ?_
            first
            | refine s_splitT rfl rfl rfl (fun h => ?_) (fun h => ?_)
            | refine s_splitF rfl rfl rfl (fun h => ?_) (fun h => ?_)
            | refine s_splitTn rfl rfl rfl (fun h => ?_) (fun h => ?_)
            | refine s_splitFn rfl rfl rfl (fun h => ?_) (fun h => ?_)
            | refine s_split rfl rfl rfl (fun h => ?_) (fun h => ?_)))
      | (refine isCond ?_
         first
         | refine at_true rfl ?_
         | refine at_false rfl ?_
         | refine at_iftd rfl (fun h => ?_) (fun h => ?_)
         | refine at_iftn rfl (fun h => ?_) (fun h => ?_)
         | refine at_ift rfl (fun h => ?_) (fun h => ?_)
         | refine at_ifd rfl (fun h => ?_) (fun h => ?_)
         | refine at_ifn rfl (fun h => ?_) (fun h => ?_)
         | refine at_cond rfl (fun h => ?_) (fun h => ?_))
      | refine at_ret ?_
      | refine at_exit ?_
      | refine bk_hit ?_
      | refine bk_miss rfl ?_
      | refine ret_eq rfl ?_
    rfl

theorem isFalse_ok (v : PVal) : FC Try.prog 99 [.agg v.enc] [] 3 (fun x _ => x = .bool (falseVal v)) := by
  refine fc_body tabOK Try.func99 rfl Try.ntmps99 rfl rfl rfl ?_
  repeat' first
    | refine at_seq ?_
    | refine at_region ?_
    | refine aops_nil ?_
    | refine at_skip ?_
    | refine at_block ?_
    | refine sxs tabOK rfl ?_
    | (refine isOps ?_
       first
       | (refine isLen ?_; refine sv rfl (ov_mlen tabOK rfl rfl rfl) rfl ?_)
       | (refine isBin ?_
          first
          | refine s_add tabOK rfl rfl rfl (by omega) rfl ?_
          | refine s_sub tabOK rfl rfl rfl (by omega) rfl ?_)
       | refine sx tabOK rfl ?_
       | (refine isGuard ?_
          first
          | refine s_splitT rfl rfl rfl (fun h => ?_) (fun h => ?_)
          | refine s_splitF rfl rfl rfl (fun h => ?_) (fun h => ?_)
          | refine s_splitTn rfl rfl rfl (fun h => ?_) (fun h => ?_)
          | refine s_splitFn rfl rfl rfl (fun h => ?_) (fun h => ?_)
          | refine s_split rfl rfl rfl (fun h => ?_) (fun h => ?_)))
    | (refine isCond ?_
       first
       | refine at_true rfl ?_
       | refine at_false rfl ?_
       | refine at_iftd rfl (fun h => ?_) (fun h => ?_)
       | refine at_iftn rfl (fun h => ?_) (fun h => ?_)
       | refine at_ift rfl (fun h => ?_) (fun h => ?_)
       | refine at_ifd rfl (fun h => ?_) (fun h => ?_)
       | refine at_ifn rfl (fun h => ?_) (fun h => ?_)
       | refine at_cond rfl (fun h => ?_) (fun h => ?_))
    | refine at_ret ?_
    | refine at_exit ?_
    | refine bk_hit ?_
    | refine bk_miss rfl ?_
    | refine ret_eq rfl ?_
  all_goals (simp_all [falseVal])

theorem l8False_ok (v : PVal) : FC Try.prog 108 [.agg v.enc] [] 3 (fun x _ => x = .bool (falseVal v)) := by
  refine fc_body tabOK Try.func108 rfl Try.ntmps108 rfl rfl rfl ?_
  repeat' first
    | refine at_seq ?_
    | refine at_region ?_
    | refine aops_nil ?_
    | refine at_skip ?_
    | refine at_block ?_
    | refine sxs tabOK rfl ?_
    | (refine isOps ?_
       first
       | (refine isLen ?_; refine sv rfl (ov_mlen tabOK rfl rfl rfl) rfl ?_)
       | (refine isBin ?_
          first
          | refine s_add tabOK rfl rfl rfl (by omega) rfl ?_
          | refine s_sub tabOK rfl rfl rfl (by omega) rfl ?_)
       | refine sx tabOK rfl ?_
       | (refine isGuard ?_
          first
          | refine s_splitT rfl rfl rfl (fun h => ?_) (fun h => ?_)
          | refine s_splitF rfl rfl rfl (fun h => ?_) (fun h => ?_)
          | refine s_splitTn rfl rfl rfl (fun h => ?_) (fun h => ?_)
          | refine s_splitFn rfl rfl rfl (fun h => ?_) (fun h => ?_)
          | refine s_split rfl rfl rfl (fun h => ?_) (fun h => ?_)))
    | (refine isCond ?_
       first
       | refine at_true rfl ?_
       | refine at_false rfl ?_
       | refine at_iftd rfl (fun h => ?_) (fun h => ?_)
       | refine at_iftn rfl (fun h => ?_) (fun h => ?_)
       | refine at_ift rfl (fun h => ?_) (fun h => ?_)
       | refine at_ifd rfl (fun h => ?_) (fun h => ?_)
       | refine at_ifn rfl (fun h => ?_) (fun h => ?_)
       | refine at_cond rfl (fun h => ?_) (fun h => ?_))
    | refine at_ret ?_
    | refine at_exit ?_
    | refine bk_hit ?_
    | refine bk_miss rfl ?_
    | refine ret_eq rfl ?_
  all_goals (simp_all [falseVal])

theorem l8Numbers_ok (p a b : Int) (hp : 0 ≤ p ∧ p ≤ 4) (ha : -999999999 ≤ a ∧ a ≤ 999999999) (hb : -999999999 ≤ b ∧ b ≤ 999999999) : FC Try.prog 106 [.int .i64 p, .int .i64 a, .int .i64 b] [] 3 (fun x _ => x = PRes (numbers p a b)) := by
  have hm := mul_bound ha hb
  refine fc_body tabOK Try.func106 rfl Try.ntmps106 rfl rfl rfl ?_
  repeat' first
    | refine at_seq ?_
    | refine at_region ?_
    | refine aops_nil ?_
    | refine at_skip ?_
    | refine at_block ?_
    | refine sxs tabOK rfl ?_
    | (refine isOps ?_
       first
       | refine s_add tabOK rfl rfl rfl (by omega) rfl ?_
       | refine s_sub tabOK rfl rfl rfl (by omega) rfl ?_
       | refine s_mul tabOK rfl rfl rfl (by omega) rfl ?_
       | refine call_eq (l1In_ok _ _ _) rfl rfl rfl rfl ?_
       | refine call_eq (l8Bool_ok _) rfl rfl rfl rfl ?_
       | refine sv rfl (ov_build tabOK rfl rfl) rfl ?_
       | (refine isLen ?_; refine sv rfl (ov_mlen tabOK rfl rfl rfl) rfl ?_)
       | (refine isBin ?_
          first
          | refine s_add tabOK rfl rfl rfl (by omega) rfl ?_
          | refine s_sub tabOK rfl rfl rfl (by omega) rfl ?_)
       | refine sx tabOK rfl ?_
       | (refine isGuard ?_
          first
          | refine s_splitT rfl rfl rfl (fun h => ?_) (fun h => ?_)
          | refine s_splitF rfl rfl rfl (fun h => ?_) (fun h => ?_)
          | refine s_splitTn rfl rfl rfl (fun h => ?_) (fun h => ?_)
          | refine s_splitFn rfl rfl rfl (fun h => ?_) (fun h => ?_)
          | refine s_split rfl rfl rfl (fun h => ?_) (fun h => ?_)))
    | (refine isCond ?_
       first
       | refine at_true rfl ?_
       | refine at_false rfl ?_
       | refine at_iftd rfl (fun h => ?_) (fun h => ?_)
       | refine at_iftn rfl (fun h => ?_) (fun h => ?_)
       | refine at_ift rfl (fun h => ?_) (fun h => ?_)
       | refine at_ifd rfl (fun h => ?_) (fun h => ?_)
       | refine at_ifn rfl (fun h => ?_) (fun h => ?_)
       | refine at_cond rfl (fun h => ?_) (fun h => ?_))
    | refine at_ret ?_
    | refine at_exit ?_
    | refine bk_hit ?_
    | refine bk_miss rfl ?_
    | refine ret_eq rfl ?_
  all_goals first
    | (refine Eq.trans (b := PRes (zeroVal, tooLarge)) rfl (congrArg PRes ?_); simp_all [numbers]; done)
    | (refine Eq.trans (b := PRes (⟨3, _, []⟩, [])) rfl (congrArg PRes ?_); simp_all [numbers]; done)
    | (refine Eq.trans (b := PRes (boolVal (decide _), [])) rfl (congrArg PRes ?_); simp_all [numbers]; done)
    | (have hp4 : p = 4 := by omega
       refine Eq.trans (b := PRes (boolVal (decide _), [])) rfl (congrArg PRes ?_); simp_all [numbers]; done)

end Go.Proofs.Ytiecdekmiabmkaa
