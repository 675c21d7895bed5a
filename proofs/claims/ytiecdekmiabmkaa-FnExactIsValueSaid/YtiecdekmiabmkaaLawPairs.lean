/-
  The law on pairs: its contract.
-/
import Derived.Test.YtiecdekmiabmkaaWkPairs
set_option linter.unusedVariables false
set_option linter.unusedSimpArgs false
namespace Go.Proofs.Ytiecdekmiabmkaa
open Go.Abs
attribute [local irreducible] AT AOps FC isVal arePairs szPairs szValue
set_option maxRecDepth 4000
set_option maxHeartbeats 2000000

theorem FnExactArePairs_fc (ps : List PPair) (hp : pairsWf ps) : FC Try.prog 4 [.psl 0 6 (ps.map PPair.enc)] [] 3 (fun x _ => x = .bool true) := by
  refine fc_body tabOK Try.func4 rfl Try.ntmps4 rfl rfl rfl ?_
  repeat' first
    | refine call_eq (szPairS_ok ps 1048576 (by omega) hp) rfl (rlL_cons (rl_psl rl_pp rfl) (rlL_cons rfl rlL_nil)) rfl rfl ?_
    | refine call_eq (toPairS_ok ps (szPairs_small (ps := ps) (n := 1048576) (by assumption) (by omega) (by omega))) rfl (rlL_cons (rl_psl rl_pp rfl) rlL_nil) (rl_psl rl_pp rfl) rfl ?_
    | refine call_eq (sArePairs_ok ps (szPairs_small (ps := ps) (n := 1048576) (by assumption) (by omega) (by omega))) rfl (rlL_cons (rl_psl rl_pp rfl) rlL_nil) rfl rfl ?_
    | refine call_eq (ArePairs_ok ps (szPairs_small (ps := ps) (n := 1048576) (by assumption) (by omega) (by omega))) rfl (rlL_cons (rl_psl rl_pp rfl) rlL_nil) rfl rfl ?_
    | refine call_eq (eqPairS_ok ps ps (szPairs_small (ps := ps) (n := 1048576) (by assumption) (by omega) (by omega)).1) rfl (rlL_cons (rl_psl rl_pp rfl) (rlL_cons (rl_psl rl_pp rfl) rlL_nil)) rfl rfl ?_
    | refine sv rfl (ov_bne tabOK rfl rfl rfl) rfl ?_
    | refine sx tabOK rfl ?_
    | refine aops_nil ?_
    | refine at_seq ?_
    | refine at_region ?_
    | refine s_splitT rfl rfl rfl (fun h => ?_) (fun h => ?_)
    | refine s_splitF rfl rfl rfl (fun h => ?_) (fun h => ?_)
    | refine s_splitTn rfl rfl rfl (fun h => ?_) (fun h => ?_)
    | refine s_splitFn rfl rfl rfl (fun h => ?_) (fun h => ?_)
    | refine s_split rfl rfl rfl (fun h => ?_) (fun h => ?_)
    | refine at_skip ?_
    | refine at_block ?_
    | refine at_true rfl ?_
    | refine at_false rfl ?_
    | refine at_iftd rfl (fun h => ?_) (fun h => ?_)
    | refine at_iftn rfl (fun h => ?_) (fun h => ?_)
    | refine at_ift rfl (fun h => ?_) (fun h => ?_)
    | refine at_ifd rfl (fun h => ?_) (fun h => ?_)
    | refine at_ifn rfl (fun h => ?_) (fun h => ?_)
    | refine at_cond rfl (fun h => ?_) (fun h => ?_)
    | refine at_ret ?_
    | refine at_exit ?_
    | refine bk_hit ?_
    | refine bk_miss rfl ?_
    | refine ret_eq rfl ?_
  · rfl
  · exact absurd rfl h
  · exact absurd rfl h
  · rfl

end Go.Proofs.Ytiecdekmiabmkaa
