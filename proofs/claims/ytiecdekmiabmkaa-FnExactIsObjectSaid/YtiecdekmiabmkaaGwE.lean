/-
  Walks, made by wip/gen: E
-/
import Derived.Test.YtiecdekmiabmkaaGpE
import Derived.Test.YtiecdekmiabmkaaGwD
set_option linter.unusedVariables false
set_option linter.unusedSimpArgs false
namespace Go.Proofs.Ytiecdekmiabmkaa
open Go.Abs
attribute [local irreducible] AT AOps FC DR DN
set_option maxRecDepth 10000
set_option maxHeartbeats 4000000

theorem w_FnExactIsObject_ok (aO : PObj) (q : Bool) (hF : w_FnExactIsObject aO = some q) : FC Try.prog 11 [.agg (cObj.row 0 aO)] [] 3 (fun x _ => x = .bool q) := by
  refine FC.of_le ?_
  refine fc_body tabOK Try.func11 rfl Try.ntmps11 rfl rfl rfl ?_
  unfold w_FnExactIsObject at hF
  refine at_seq ?_
  refine at_region ?_
  refine sxk 2 tabOK rfl ?_
  refine aops_nil ?_
  refine at_seq ?_
  refine at_region ?_
  refine sxk 1 tabOK rfl ?_
  refine aops_nil ?_
  refine at_seq ?_
  refine at_region ?_
  refine sxk 2 tabOK rfl ?_
  obtain ⟨x2, hx2, hF⟩ := bnd_some hF
  refine call_eq (w_szObject_ok aO 1048576 x2 hx2) rfl ((rlL_cons (cObj.rl_agg (l := 0) (l' := 0) _ aO rfl) (rlL_cons (rfl) rlL_nil))) rfl rfl ?_
  refine sxk 1 tabOK rfl ?_
  refine aops_nil ?_
  refine at_seq ?_
  refine at_seq ?_
  refine at_region ?_
  refine sxk 2 tabOK rfl ?_
  refine aops_nil ?_
  refine ct_if hF rfl (fun hc hF => ?_) (fun hc hF => ?_)
  · refine at_seq ?_
    refine at_keep [] rfl ?_
    refine at_region ?_
    refine sxk 1 tabOK rfl ?_
    refine aops_nil ?_
    refine at_ret ?_
    refine tk_r ?_
    obtain rfl := Option.some.inj hF
    refine ret_le rfl ?_
    exact (vle_refl _)
  · refine at_skip ?_
    refine at_seq ?_
    refine at_keep [1] rfl ?_
    refine at_region ?_
    refine sxk 1 tabOK rfl ?_
    obtain ⟨x3, hx3, hF⟩ := bnd_some hF
    refine call_eq (w_toObject_ok aO x3 hx3) rfl ((rlL_cons (cObj.rl_agg (l := 0) (l' := 0) _ aO rfl) rlL_nil)) (cObj.rl_agg (l := 1) (l' := 1) _ x3 rfl) rfl ?_
    obtain ⟨x4, hx4, hF⟩ := bnd_some hF
    refine call_eq (s_IsObject_ok x3 x4 hx4) rfl ((rlL_cons (cObj.rl_agg (l := 1) (l' := 0) _ x3 rfl) rlL_nil)) rfl rfl ?_
    refine sxk 1 tabOK rfl ?_
    refine aops_nil ?_
    refine at_seq ?_
    refine at_region ?_
    refine sxk 1 tabOK rfl ?_
    obtain ⟨x5, hx5, hF⟩ := bnd_some hF
    refine call_eq (w_toObject_ok aO x5 hx5) rfl ((rlL_cons (cObj.rl_agg (l := 0) (l' := 0) _ aO rfl) rlL_nil)) (cObj.rl_agg (l := 1) (l' := 1) _ x5 rfl) rfl ?_
    refine sxk 2 tabOK rfl ?_
    refine aops_nil ?_
    refine at_seq ?_
    refine at_region ?_
    refine sxk 1 tabOK rfl ?_
    obtain ⟨x6, hx6, hF⟩ := bnd_some hF
    refine call_eq (i_IsObject_ok x5 x6 hx6) rfl ((rlL_cons (cObj.rl_agg (l := 1) (l' := 0) _ x5 rfl) rlL_nil)) rfl rfl ?_
    refine sxk 1 tabOK rfl ?_
    refine aops_nil ?_
    refine at_seq ?_
    refine at_seq ?_
    refine at_keep [1, 4, 5, 6] rfl ?_
    refine at_region ?_
    refine sxk 2 tabOK rfl ?_
    refine sv rfl (ov_bne tabOK rfl rfl rfl) rfl ?_
    refine aops_nil ?_
    refine ct_ifn hF rfl (fun hc hF => ?_) (fun hc hF => ?_)
    · refine at_seq ?_
      refine at_keep [] rfl ?_
      refine at_region ?_
      refine sxk 1 tabOK rfl ?_
      refine aops_nil ?_
      refine at_ret ?_
      refine tk_r ?_
      obtain rfl := Option.some.inj hF
      refine ret_le rfl ?_
      exact (vle_refl _)
    · refine at_skip ?_
      refine at_seq ?_
      refine at_seq ?_
      refine at_drawnM (id := 10) 3 (by kernel_rfl) (by kernel_rfl) ?_
      refine nx tabOK rfl ?_
      refine nx tabOK rfl ?_
      obtain ⟨x7, hx7, hF⟩ := bnd_some hF
      refine n_call (w_toObject_ok aO x7 hx7) rfl ((rlL_cons (cObj.rl_agg (l := 0) (l' := 0) _ aO rfl) rlL_nil)) (cObj.rl_agg (l := 1) (l' := 1) _ x7 rfl) rfl ?_
      refine dn_nil rfl ?_
      obtain ⟨x8, hx8, hF⟩ := bnd_some hF
      refine call_eq (w_eqObject_ok x5 x7 x8 hx8) rfl ((rlL_cons (cObj.rl_agg (l := 1) (l' := 0) _ x5 rfl) (rlL_cons (cObj.rl_agg (l := 1) (l' := 0) _ x7 rfl) rlL_nil))) rfl rfl ?_
      refine sxk 1 tabOK rfl ?_
      refine aops_nil ?_
      refine ct_bn hF rfl (fun hc hF => ?_) (fun hc hF => ?_)
      · refine at_seq ?_
        refine at_keep [] rfl ?_
        refine at_region ?_
        refine sxk 1 tabOK rfl ?_
        refine aops_nil ?_
        refine at_ret ?_
        refine tk_r ?_
        obtain rfl := Option.some.inj hF
        refine ret_le rfl ?_
        exact (vle_refl _)
      · refine at_skip ?_
        refine at_seq ?_
        refine at_keep [] rfl ?_
        refine at_region ?_
        refine sxk 1 tabOK rfl ?_
        refine aops_nil ?_
        refine at_ret ?_
        obtain rfl := Option.some.inj hF
        refine ret_le rfl ?_
        exact (vle_refl _)

end Go.Proofs.Ytiecdekmiabmkaa
