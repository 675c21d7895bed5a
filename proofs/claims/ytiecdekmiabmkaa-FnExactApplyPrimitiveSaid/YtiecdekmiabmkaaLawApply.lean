/-
  The law on a primitive applied: its contract.
-/
import Derived.Test.YtiecdekmiabmkaaWkApply
import Derived.Test.YtiecdekmiabmkaaWkVals
set_option linter.unusedVariables false
set_option linter.unusedSimpArgs false
namespace Go.Proofs.Ytiecdekmiabmkaa
open Go.Abs
attribute [local irreducible] AT AOps FC szPairs szValue szVals applyPrim
set_option maxRecDepth 4000
set_option maxHeartbeats 2000000

theorem FnExactApplyPrimitive_fc (p : Int) (vs : List PVal) (ps : List PPair) (_ : IntKind.i64.min ≤ p ∧ p ≤ IntKind.i64.max) (hv : valsWf vs) (hp : pairsWf ps) : FC Try.prog 7 [.int .i64 p, .psl 0 3 (vs.map PVal.enc), .psl 0 6 (ps.map PPair.enc)] [] 3 (fun x _ => x = .bool true) := by
  have hle := szVals_le (ps := vs) (n := 1048576) (by omega)
  refine fc_body tabOK Try.func7 rfl Try.ntmps7 rfl rfl rfl ?_
  repeat' first
    | refine at_seq ?_
    | refine at_region ?_
    | refine aops_nil ?_
    | refine at_skip ?_
    | refine at_block ?_
    | refine sxs tabOK rfl ?_
    | (refine isOps ?_
       first
       | refine call_eq (szValueS_ok vs 1048576 (by omega) hv) rfl (rlL_cons (rl_psl rl_pv rfl) (rlL_cons rfl rlL_nil)) rfl rfl ?_
       | refine call_eq (szPairS_ok ps (szVals vs 1048576) (by omega) hp) rfl (rlL_cons (rl_psl rl_pp rfl) (rlL_cons rfl rlL_nil)) rfl rfl ?_
       | refine call_eq (toValueS_ok vs (szVals_small (ps := vs) (n := 1048576) (by assumption) (by omega) (by omega))) rfl (rlL_cons (rl_psl rl_pv rfl) rlL_nil) (rl_psl rl_pv rfl) rfl ?_
       | refine call_eq (toPairS_ok ps (szPairs_small (ps := ps) (n := szVals vs 1048576) (by assumption) (by omega) (by omega))) rfl (rlL_cons (rl_psl rl_pp rfl) rlL_nil) (rl_psl rl_pp rfl) rfl ?_
       | refine call_eq (sApplyPrimitive_ok p vs ps (szVals_small (ps := vs) (n := 1048576) (by assumption) (by omega) (by omega)) (szPairs_small (ps := ps) (n := szVals vs 1048576) (by assumption) (by omega) (by omega))) rfl (rlL_cons rfl (rlL_cons (rl_psl rl_pv rfl) (rlL_cons (rl_psl rl_pp rfl) rlL_nil))) rfl rfl ?_
       | refine call_eq (ApplyPrimitive_ok p vs ps (szVals_small (ps := vs) (n := 1048576) (by assumption) (by omega) (by omega)) (szPairs_small (ps := ps) (n := szVals vs 1048576) (by assumption) (by omega) (by omega))) rfl (rlL_cons rfl (rlL_cons (rl_psl rl_pv rfl) (rlL_cons (rl_psl rl_pp rfl) rlL_nil))) rfl rfl ?_
       | refine call_eq (eqValue_ok (applyPrim p vs ps).1 (applyPrim p vs ps).1) rfl rfl rfl rfl ?_
       | refine call_eq (eqValueS_ok vs vs (szVals_small (ps := vs) (n := 1048576) (by assumption) (by omega) (by omega)).1) rfl (rlL_cons (rl_psl rl_pv rfl) (rlL_cons (rl_psl rl_pv rfl) rlL_nil)) rfl rfl ?_
       | refine call_eq (eqPairS_ok ps ps (szPairs_small (ps := ps) (n := szVals vs 1048576) (by assumption) (by omega) (by omega)).1) rfl (rlL_cons (rl_psl rl_pp rfl) (rlL_cons (rl_psl rl_pp rfl) rlL_nil)) rfl rfl ?_
       | (refine isLen ?_; refine sv rfl (ov_mlen tabOK rfl rfl rfl) rfl ?_)
       | (refine isBin ?_
          first
          | refine s_add tabOK rfl rfl rfl (by omega) rfl ?_
          | refine s_sub tabOK rfl rfl rfl (by omega) rfl ?_)
       | refine sx tabOK rfl ?_
       | (refine isGuard ?_
          first
          | refine s_splitT rfl rfl rfl (fun h => ?_) (fun h => ?_)
          | refine s_splitF rfl rfl rfl (fun h => ?_) (fun h => ?_)
          | refine s_splitTn rfl rfl rfl (fun h => ?_) (fun h => ?_)
          | refine s_splitFn rfl rfl rfl (fun h => ?_) (fun h => ?_)
          | refine s_split rfl rfl rfl (fun h => ?_) (fun h => ?_)))
    | (refine isCond ?_
       first
       | refine at_true rfl ?_
       | refine at_false rfl ?_
       | refine at_iftd rfl (fun h => ?_) (fun h => ?_)
       | refine at_iftn rfl (fun h => ?_) (fun h => ?_)
       | refine at_ift rfl (fun h => ?_) (fun h => ?_)
       | refine at_ifd rfl (fun h => ?_) (fun h => ?_)
       | refine at_ifn rfl (fun h => ?_) (fun h => ?_)
       | refine at_cond rfl (fun h => ?_) (fun h => ?_))
    | refine at_ret ?_
    | refine at_exit ?_
    | refine bk_hit ?_
    | refine bk_miss rfl ?_
    | refine ret_eq rfl ?_
  all_goals first | rfl | exact absurd rfl h | (exfalso; simp_all; done)

end Go.Proofs.Ytiecdekmiabmkaa
