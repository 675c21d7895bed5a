/-
  The law on a value beside pairs: its contract.
-/
import Derived.Test.YtiecdekmiabmkaaLawPairs
set_option linter.unusedVariables false
set_option linter.unusedSimpArgs false
namespace Go.Proofs.Ytiecdekmiabmkaa
open Go.Abs
attribute [local irreducible] AT AOps FC isVal arePairs szPairs szValue
set_option maxRecDepth 4000
set_option maxHeartbeats 2000000

def isValueOf (v : PVal) (ps : List PPair) : Bool := arePairs ps && isVal ps.length v

theorem sIsValue_ok (v : PVal) (ps : List PPair) (hv : v.small) (hp : pairsSmall ps) : FC Try.prog 20 [.agg v.enc, .psl 0 6 (ps.map PPair.enc)] [] 3 (fun x _ => x = .bool (isValueOf v ps)) := by
  have hlen := hp.1
  refine fc_body tabOK Try.func20 rfl Try.ntmps20 rfl rfl rfl ?_
  repeat' first
    | refine sv rfl (ov_mlen tabOK rfl rfl rfl) rfl ?_
    | refine call_eq (sArePairs_ok ps hp) rfl (rlL_cons (rl_psl rl_pp rfl) rlL_nil) rfl rfl ?_
    | refine call_eq (l8Value_ok v ps.length (by omega) hv) rfl rfl rfl rfl ?_
    | refine sx tabOK rfl ?_
    | refine aops_nil ?_
    | refine at_seq ?_
    | refine at_region ?_
    | refine s_splitT rfl rfl rfl (fun h => ?_) (fun h => ?_)
    | refine s_splitF rfl rfl rfl (fun h => ?_) (fun h => ?_)
    | refine s_splitTn rfl rfl rfl (fun h => ?_) (fun h => ?_)
    | refine s_splitFn rfl rfl rfl (fun h => ?_) (fun h => ?_)
    | refine s_split rfl rfl rfl (fun h => ?_) (fun h => ?_)
    | refine at_skip ?_
    | refine at_block ?_
    | refine at_true rfl ?_
    | refine at_false rfl ?_
    | refine at_iftd rfl (fun h => ?_) (fun h => ?_)
    | refine at_iftn rfl (fun h => ?_) (fun h => ?_)
    | refine at_ift rfl (fun h => ?_) (fun h => ?_)
    | refine at_ifd rfl (fun h => ?_) (fun h => ?_)
    | refine at_ifn rfl (fun h => ?_) (fun h => ?_)
    | refine at_cond rfl (fun h => ?_) (fun h => ?_)
    | refine at_ret ?_
    | refine at_exit ?_
    | refine bk_hit ?_
    | refine bk_miss rfl ?_
    | refine ret_eq rfl ?_
  all_goals refine congrArg V.bool ?_
  all_goals simp_all [isValueOf]

theorem IsValue_ok (v : PVal) (ps : List PPair) (hv : v.small) (hp : pairsSmall ps) : FC Try.prog 22 [.agg v.enc, .psl 0 6 (ps.map PPair.enc)] [] 3 (fun x _ => x = .bool (isValueOf v ps)) := by
  have hlen := hp.1
  refine fc_body tabOK Try.func22 rfl Try.ntmps22 rfl rfl rfl ?_
  repeat' first
    | refine sv rfl (ov_mlen tabOK rfl rfl rfl) rfl ?_
    | refine call_eq (ArePairs_ok ps hp) rfl (rlL_cons (rl_psl rl_pp rfl) rlL_nil) rfl rfl ?_
    | refine call_eq (isValue_ok v ps.length (by omega) hv) rfl rfl rfl rfl ?_
    | refine sx tabOK rfl ?_
    | refine aops_nil ?_
    | refine at_seq ?_
    | refine at_region ?_
    | refine s_splitT rfl rfl rfl (fun h => ?_) (fun h => ?_)
    | refine s_splitF rfl rfl rfl (fun h => ?_) (fun h => ?_)
    | refine s_splitTn rfl rfl rfl (fun h => ?_) (fun h => ?_)
    | refine s_splitFn rfl rfl rfl (fun h => ?_) (fun h => ?_)
    | refine s_split rfl rfl rfl (fun h => ?_) (fun h => ?_)
    | refine at_skip ?_
    | refine at_block ?_
    | refine at_true rfl ?_
    | refine at_false rfl ?_
    | refine at_iftd rfl (fun h => ?_) (fun h => ?_)
    | refine at_iftn rfl (fun h => ?_) (fun h => ?_)
    | refine at_ift rfl (fun h => ?_) (fun h => ?_)
    | refine at_ifd rfl (fun h => ?_) (fun h => ?_)
    | refine at_ifn rfl (fun h => ?_) (fun h => ?_)
    | refine at_cond rfl (fun h => ?_) (fun h => ?_)
    | refine at_ret ?_
    | refine at_exit ?_
    | refine bk_hit ?_
    | refine bk_miss rfl ?_
    | refine ret_eq rfl ?_
  all_goals refine congrArg V.bool ?_
  all_goals simp_all [isValueOf]

attribute [local irreducible] isValueOf

theorem FnExactIsValue_fc (v : PVal) (ps : List PPair) (hv : v.wf) (hp : pairsWf ps) : FC Try.prog 5 [.agg v.enc, .psl 0 6 (ps.map PPair.enc)] [] 3 (fun x _ => x = .bool true) := by
  have hle := szValue_le (v := v) (n := 1048576) (by omega)
  refine fc_body tabOK Try.func5 rfl Try.ntmps5 rfl rfl rfl ?_
  repeat' first
    | refine call_eq (szValue_ok v 1048576 (by omega) hv.2.2) rfl rfl rfl rfl ?_
    | refine call_eq (szPairS_ok ps (szValue v 1048576) (by omega) hp) rfl (rlL_cons (rl_psl rl_pp rfl) (rlL_cons rfl rlL_nil)) rfl rfl ?_
    | refine call_eq (toValue_ok v) rfl rfl rfl rfl ?_
    | refine call_eq (toPairS_ok ps (szPairs_small (ps := ps) (n := szValue v 1048576) (by assumption) (by omega) (by omega))) rfl (rlL_cons (rl_psl rl_pp rfl) rlL_nil) (rl_psl rl_pp rfl) rfl ?_
    | refine call_eq (sIsValue_ok v ps (szValue_small (v := v) (n := 1048576) (by assumption) (by omega)) (szPairs_small (ps := ps) (n := szValue v 1048576) (by assumption) (by omega) (by omega))) rfl (rlL_cons rfl (rlL_cons (rl_psl rl_pp rfl) rlL_nil)) rfl rfl ?_
    | refine call_eq (IsValue_ok v ps (szValue_small (v := v) (n := 1048576) (by assumption) (by omega)) (szPairs_small (ps := ps) (n := szValue v 1048576) (by assumption) (by omega) (by omega))) rfl (rlL_cons rfl (rlL_cons (rl_psl rl_pp rfl) rlL_nil)) rfl rfl ?_
    | refine call_eq (eqPairS_ok ps ps (szPairs_small (ps := ps) (n := szValue v 1048576) (by assumption) (by omega) (by omega)).1) rfl (rlL_cons (rl_psl rl_pp rfl) (rlL_cons (rl_psl rl_pp rfl) rlL_nil)) rfl rfl ?_
    | refine sv rfl (ov_bne tabOK rfl rfl rfl) rfl ?_
    | refine sx tabOK rfl ?_
    | refine aops_nil ?_
    | refine at_seq ?_
    | refine at_region ?_
    | refine s_splitT rfl rfl rfl (fun h => ?_) (fun h => ?_)
    | refine s_splitF rfl rfl rfl (fun h => ?_) (fun h => ?_)
    | refine s_splitTn rfl rfl rfl (fun h => ?_) (fun h => ?_)
    | refine s_splitFn rfl rfl rfl (fun h => ?_) (fun h => ?_)
    | refine s_split rfl rfl rfl (fun h => ?_) (fun h => ?_)
    | refine at_skip ?_
    | refine at_block ?_
    | refine at_true rfl ?_
    | refine at_false rfl ?_
    | refine at_iftd rfl (fun h => ?_) (fun h => ?_)
    | refine at_iftn rfl (fun h => ?_) (fun h => ?_)
    | refine at_ift rfl (fun h => ?_) (fun h => ?_)
    | refine at_ifd rfl (fun h => ?_) (fun h => ?_)
    | refine at_ifn rfl (fun h => ?_) (fun h => ?_)
    | refine at_cond rfl (fun h => ?_) (fun h => ?_)
    | refine at_ret ?_
    | refine at_exit ?_
    | refine bk_hit ?_
    | refine bk_miss rfl ?_
    | refine ret_eq rfl ?_
  · rfl
  · rfl
  · exact absurd rfl h
  · exact absurd rfl h
  · rfl

end Go.Proofs.Ytiecdekmiabmkaa
