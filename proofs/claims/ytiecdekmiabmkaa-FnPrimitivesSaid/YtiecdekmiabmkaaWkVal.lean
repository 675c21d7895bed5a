/-
  The walks: what is a value; what are pairs.
-/
import Derived.Test.YtiecdekmiabmkaaWkPairB
set_option linter.unusedVariables false
set_option linter.unusedSimpArgs false
namespace Go.Proofs.Ytiecdekmiabmkaa
open Go.Abs
attribute [local irreducible] AT AOps FC DR
set_option maxRecDepth 4000
set_option maxHeartbeats 1000000

theorem l8Value_ok (v : PVal) (n : Int) (hn : 0 ≤ n ∧ n ≤ 1048576) (hv : v.small) : FC Try.prog 59 [.agg v.enc, .int .i64 n] [] 3 (fun x _ => x = .bool (isVal n v)) := by
  unfold PVal.small at hv
  refine fc_body tabOK Try.func59 rfl Try.ntmps59 rfl rfl rfl ?_
  repeat' first
    | refine at_drawn' 11 (by kernel_rfl) (by kernel_rfl) ?_
    | refine at_seq ?_
    | refine at_region ?_
    | refine aops_nil ?_
    | refine at_skip ?_
    | refine at_block ?_
    | (refine isDR ?_
       first
       | refine d_call (sPrimitiveNames_ok) rfl rfl rl_prim rfl ?_
       | refine d_call (l1In_ok _ 0 13) rfl rfl rfl rfl ?_
       | refine dx tabOK rfl ?_
       | refine dr_nil ?_
       | refine d_split (g := 66) rfl (fun h => ?_) (fun h => ?_))
    | refine sxs tabOK rfl ?_
    | (refine isOps ?_
       first
       | refine s_sub tabOK rfl rfl rfl (by omega) rfl ?_
       | refine call_eq (l1In_ok _ _ _) rfl rfl rfl rfl ?_
       | refine call_eq (sIsSymbol_ok v.text hv) rfl rfl rfl rfl ?_
       | refine call_eq (l1String_ok v.text hv) rfl rfl rfl rfl ?_
       | (refine isLen ?_; refine sv rfl (ov_mlen tabOK rfl rfl rfl) rfl ?_)
       | (refine isBin ?_
          first
          | refine s_add tabOK rfl rfl rfl (by omega) rfl ?_
          | refine s_sub tabOK rfl rfl rfl (by omega) rfl ?_)
       | refine sx tabOK rfl ?_
       | (refine isGuard ?_
          first
          | refine s_splitT rfl rfl rfl (fun h => ?_) (fun h => ?_)
          | refine s_splitF rfl rfl rfl (fun h => ?_) (fun h => ?_)
          | refine s_splitTn rfl rfl rfl (fun h => ?_) (fun h => ?_)
          | refine s_splitFn rfl rfl rfl (fun h => ?_) (fun h => ?_)
          | refine s_split rfl rfl rfl (fun h => ?_) (fun h => ?_)))
    | (refine isCond ?_
       first
       | refine at_true rfl ?_
       | refine at_false rfl ?_
       | refine at_iftd rfl (fun h => ?_) (fun h => ?_)
       | refine at_iftn rfl (fun h => ?_) (fun h => ?_)
       | refine at_ift rfl (fun h => ?_) (fun h => ?_)
       | refine at_ifd rfl (fun h => ?_) (fun h => ?_)
       | refine at_ifn rfl (fun h => ?_) (fun h => ?_)
       | refine at_cond rfl (fun h => ?_) (fun h => ?_))
    | refine at_ret ?_
    | refine at_exit ?_
    | refine bk_hit ?_
    | refine bk_miss rfl ?_
    | refine ret_eq rfl ?_
  all_goals refine congrArg V.bool ?_
  all_goals (simp_all [isVal, inside] <;> omega)

theorem isValue_ok (v : PVal) (n : Int) (hn : 0 ≤ n ∧ n ≤ 1048576) (hv : v.small) : FC Try.prog 56 [.agg v.enc, .int .i64 n] [] 3 (fun x _ => x = .bool (isVal n v)) := by
  unfold PVal.small at hv
  have hpr : primRows.length = 14 := primRows_len
  refine fc_body tabOK Try.func56 rfl Try.ntmps56 rfl rfl rfl ?_
  repeat' first
    | refine at_drawn' 15 (by kernel_rfl) (by kernel_rfl) ?_
    | refine at_seq ?_
    | refine at_region ?_
    | refine aops_nil ?_
    | refine at_skip ?_
    | refine at_block ?_
    | (refine isDR ?_
       first
       | refine d_call (PrimitiveNames_ok) rfl rfl rl_prim rfl ?_
       | refine dx tabOK rfl ?_
       | refine dr_nil ?_
       | refine d_splitd (g := 73) rfl (fun h => ?_) (fun h => ?_)
       | refine d_splitd (g := 80) rfl (fun h => ?_) (fun h => ?_))
    | refine sxs tabOK rfl ?_
    | (refine isOps ?_
       first
       | refine call_eq (IsSymbol_ok v.text hv) rfl rfl rfl rfl ?_
       | refine call_eq (stringText_ok v.text hv) rfl rfl rfl rfl ?_
       | (refine isLen ?_; refine sv rfl (ov_mlen tabOK rfl rfl rfl) rfl ?_)
       | (refine isBin ?_
          first
          | refine s_add tabOK rfl rfl rfl (by omega) rfl ?_
          | refine s_sub tabOK rfl rfl rfl (by omega) rfl ?_)
       | refine sx tabOK rfl ?_
       | (refine isGuard ?_
          first
          | refine s_splitT rfl rfl rfl (fun h => ?_) (fun h => ?_)
          | refine s_splitF rfl rfl rfl (fun h => ?_) (fun h => ?_)
          | refine s_splitTn rfl rfl rfl (fun h => ?_) (fun h => ?_)
          | refine s_splitFn rfl rfl rfl (fun h => ?_) (fun h => ?_)
          | refine s_split rfl rfl rfl (fun h => ?_) (fun h => ?_)))
    | (refine isCond ?_
       first
       | refine at_true rfl ?_
       | refine at_false rfl ?_
       | refine at_iftd rfl (fun h => ?_) (fun h => ?_)
       | refine at_iftn rfl (fun h => ?_) (fun h => ?_)
       | refine at_ift rfl (fun h => ?_) (fun h => ?_)
       | refine at_ifd rfl (fun h => ?_) (fun h => ?_)
       | refine at_ifn rfl (fun h => ?_) (fun h => ?_)
       | refine at_cond rfl (fun h => ?_) (fun h => ?_))
    | refine at_ret ?_
    | refine at_exit ?_
    | refine bk_hit ?_
    | refine bk_miss rfl ?_
    | refine ret_eq rfl ?_
  all_goals refine congrArg V.bool ?_
  all_goals (simp_all [isVal, inside] <;> omega)
end Go.Proofs.Ytiecdekmiabmkaa
