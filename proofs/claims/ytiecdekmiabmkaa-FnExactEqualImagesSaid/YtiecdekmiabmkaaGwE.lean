/-
  Walks, made by wip/gen: E
-/
import Derived.Test.YtiecdekmiabmkaaGpE
import Derived.Test.YtiecdekmiabmkaaGwD
set_option linter.unusedVariables false
set_option linter.unusedSimpArgs false
namespace Go.Proofs.Ytiecdekmiabmkaa
open Go.Abs
attribute [local irreducible] AT AOps FC DR DN
set_option maxRecDepth 10000
set_option maxHeartbeats 4000000

theorem w_FnExactIsImage_ok (aM : PImage) (aCaptures : Int) (q : Bool) (hF : w_FnExactIsImage aM aCaptures = some q) : FC Try.prog 9 [.agg (cImage.row 0 aM), .int .i64 aCaptures] [] 3 (fun x _ => x = .bool q) := by
  refine FC.of_le ?_
  refine fc_body tabOK Try.func9 rfl Try.ntmps9 rfl rfl rfl ?_
  unfold w_FnExactIsImage at hF
  refine at_seq ?_
  refine at_region ?_
  refine sxk 2 tabOK rfl ?_
  refine aops_nil ?_
  refine at_seq ?_
  refine at_region ?_
  refine sxk 1 tabOK rfl ?_
  refine aops_nil ?_
  refine at_seq ?_
  refine at_region ?_
  refine sxk 2 tabOK rfl ?_
  obtain ⟨x3, hx3, hF⟩ := bnd_some hF
  refine call_eq (w_szImage_ok aM 1048576 x3 hx3) rfl ((rlL_cons (cImage.rl_agg (l := 0) (l' := 0) _ aM rfl) (rlL_cons (rfl) rlL_nil))) rfl rfl ?_
  refine sxk 1 tabOK rfl ?_
  refine aops_nil ?_
  refine at_seq ?_
  refine at_seq ?_
  refine at_region ?_
  refine sxk 2 tabOK rfl ?_
  refine aops_nil ?_
  refine ct_if hF rfl (fun hc hF => ?_) (fun hc hF => ?_)
  · refine at_seq ?_
    refine at_keep [] rfl ?_
    refine at_region ?_
    refine sxk 1 tabOK rfl ?_
    refine aops_nil ?_
    refine at_ret ?_
    refine tk_r ?_
    obtain rfl := Option.some.inj hF
    refine ret_le rfl ?_
    exact (vle_refl _)
  · refine at_skip ?_
    refine at_seq ?_
    refine at_keep [1, 2] rfl ?_
    refine at_region ?_
    refine sxk 1 tabOK rfl ?_
    obtain ⟨x4, hx4, hF⟩ := bnd_some hF
    refine call_eq (w_toImage_ok aM x4 hx4) rfl ((rlL_cons (cImage.rl_agg (l := 0) (l' := 0) _ aM rfl) rlL_nil)) (cImage.rl_agg (l := 1) (l' := 1) _ x4 rfl) rfl ?_
    refine sxk 1 tabOK rfl ?_
    obtain ⟨x5, hx5, hF⟩ := bnd_some hF
    refine call_eq (s_IsImage_ok x4 aCaptures x5 hx5) rfl ((rlL_cons (cImage.rl_agg (l := 1) (l' := 0) _ x4 rfl) (rlL_cons (rfl) rlL_nil))) rfl rfl ?_
    refine sxk 1 tabOK rfl ?_
    refine aops_nil ?_
    refine at_seq ?_
    refine at_region ?_
    refine sxk 1 tabOK rfl ?_
    obtain ⟨x6, hx6, hF⟩ := bnd_some hF
    refine call_eq (w_toImage_ok aM x6 hx6) rfl ((rlL_cons (cImage.rl_agg (l := 0) (l' := 0) _ aM rfl) rlL_nil)) (cImage.rl_agg (l := 1) (l' := 1) _ x6 rfl) rfl ?_
    refine sxk 2 tabOK rfl ?_
    refine aops_nil ?_
    refine at_seq ?_
    refine at_region ?_
    refine sxk 2 tabOK rfl ?_
    obtain ⟨x7, hx7, hF⟩ := bnd_some hF
    refine call_eq (i_IsImage_ok x6 aCaptures x7 hx7) rfl ((rlL_cons (cImage.rl_agg (l := 1) (l' := 0) _ x6 rfl) (rlL_cons (rfl) rlL_nil))) rfl rfl ?_
    refine sxk 1 tabOK rfl ?_
    refine aops_nil ?_
    refine at_seq ?_
    refine at_seq ?_
    refine at_keep [2, 6, 7, 8] rfl ?_
    refine at_region ?_
    refine sxk 2 tabOK rfl ?_
    refine sv rfl (ov_bne tabOK rfl rfl rfl) rfl ?_
    refine aops_nil ?_
    refine ct_ifn hF rfl (fun hc hF => ?_) (fun hc hF => ?_)
    · refine at_seq ?_
      refine at_keep [] rfl ?_
      refine at_region ?_
      refine sxk 1 tabOK rfl ?_
      refine aops_nil ?_
      refine at_ret ?_
      refine tk_r ?_
      obtain rfl := Option.some.inj hF
      refine ret_le rfl ?_
      exact (vle_refl _)
    · refine at_skip ?_
      refine at_seq ?_
      refine at_seq ?_
      refine at_drawnM (id := 10) 3 (by kernel_rfl) (by kernel_rfl) ?_
      refine nx tabOK rfl ?_
      refine nx tabOK rfl ?_
      obtain ⟨x8, hx8, hF⟩ := bnd_some hF
      refine n_call (w_toImage_ok aM x8 hx8) rfl ((rlL_cons (cImage.rl_agg (l := 0) (l' := 0) _ aM rfl) rlL_nil)) (cImage.rl_agg (l := 1) (l' := 1) _ x8 rfl) rfl ?_
      refine dn_nil rfl ?_
      obtain ⟨x9, hx9, hF⟩ := bnd_some hF
      refine call_eq (w_eqImage_ok x6 x8 x9 hx9) rfl ((rlL_cons (cImage.rl_agg (l := 1) (l' := 0) _ x6 rfl) (rlL_cons (cImage.rl_agg (l := 1) (l' := 0) _ x8 rfl) rlL_nil))) rfl rfl ?_
      refine sxk 1 tabOK rfl ?_
      refine aops_nil ?_
      refine ct_bn hF rfl (fun hc hF => ?_) (fun hc hF => ?_)
      · refine at_seq ?_
        refine at_keep [] rfl ?_
        refine at_region ?_
        refine sxk 1 tabOK rfl ?_
        refine aops_nil ?_
        refine at_ret ?_
        refine tk_r ?_
        obtain rfl := Option.some.inj hF
        refine ret_le rfl ?_
        exact (vle_refl _)
      · refine at_skip ?_
        refine at_seq ?_
        refine at_keep [] rfl ?_
        refine at_region ?_
        refine sxk 1 tabOK rfl ?_
        refine aops_nil ?_
        refine at_ret ?_
        obtain rfl := Option.some.inj hF
        refine ret_le rfl ?_
        exact (vle_refl _)

theorem w_FnExactEqualImages_ok (aA : PImage) (aB : PImage) (q : Bool) (hF : w_FnExactEqualImages aA aB = some q) : FC Try.prog 6 [.agg (cImage.row 0 aA), .agg (cImage.row 0 aB)] [] 3 (fun x _ => x = .bool q) := by
  refine FC.of_le ?_
  refine fc_body tabOK Try.func6 rfl Try.ntmps6 rfl rfl rfl ?_
  unfold w_FnExactEqualImages at hF
  refine at_seq ?_
  refine at_region ?_
  refine sxk 3 tabOK rfl ?_
  refine aops_nil ?_
  refine at_seq ?_
  refine at_region ?_
  refine sxk 1 tabOK rfl ?_
  refine aops_nil ?_
  refine at_seq ?_
  refine at_region ?_
  refine sxk 2 tabOK rfl ?_
  obtain ⟨x3, hx3, hF⟩ := bnd_some hF
  refine call_eq (w_szImage_ok aA 1048576 x3 hx3) rfl ((rlL_cons (cImage.rl_agg (l := 0) (l' := 0) _ aA rfl) (rlL_cons (rfl) rlL_nil))) rfl rfl ?_
  refine sxk 1 tabOK rfl ?_
  refine aops_nil ?_
  refine at_seq ?_
  refine at_seq ?_
  refine at_region ?_
  refine sxk 2 tabOK rfl ?_
  refine aops_nil ?_
  refine ct_if hF rfl (fun hc hF => ?_) (fun hc hF => ?_)
  · refine at_seq ?_
    refine at_keep [] rfl ?_
    refine at_region ?_
    refine sxk 1 tabOK rfl ?_
    refine aops_nil ?_
    refine at_ret ?_
    refine tk_r ?_
    obtain rfl := Option.some.inj hF
    refine ret_le rfl ?_
    exact (vle_refl _)
  · refine at_skip ?_
    refine at_seq ?_
    refine at_keep [2, 3, 5] rfl ?_
    refine at_region ?_
    refine sxk 2 tabOK rfl ?_
    obtain ⟨x4, hx4, hF⟩ := bnd_some hF
    refine call_eq (w_szImage_ok aB x3 x4 hx4) rfl ((rlL_cons (cImage.rl_agg (l := 0) (l' := 0) _ aB rfl) (rlL_cons (rfl) rlL_nil))) rfl rfl ?_
    refine sxk 1 tabOK rfl ?_
    refine aops_nil ?_
    refine at_seq ?_
    refine at_seq ?_
    refine at_region ?_
    refine sxk 2 tabOK rfl ?_
    refine aops_nil ?_
    refine ct_if hF rfl (fun hc hF => ?_) (fun hc hF => ?_)
    · refine at_seq ?_
      refine at_keep [] rfl ?_
      refine at_region ?_
      refine sxk 1 tabOK rfl ?_
      refine aops_nil ?_
      refine at_ret ?_
      refine tk_r ?_
      obtain rfl := Option.some.inj hF
      refine ret_le rfl ?_
      exact (vle_refl _)
    · refine at_skip ?_
      refine at_seq ?_
      refine at_drawnM (id := 8) 3 (by kernel_rfl) (by kernel_rfl) ?_
      refine nx tabOK rfl ?_
      obtain ⟨x5, hx5, hF⟩ := bnd_some hF
      refine n_call (w_toImage_ok aA x5 hx5) rfl ((rlL_cons (cImage.rl_agg (l := 0) (l' := 0) _ aA rfl) rlL_nil)) (cImage.rl_agg (l := 1) (l' := 1) _ x5 rfl) rfl ?_
      refine nx tabOK rfl ?_
      refine dn_nil rfl ?_
      obtain ⟨x6, hx6, hF⟩ := bnd_some hF
      refine call_eq (w_toImage_ok aB x6 hx6) rfl ((rlL_cons (cImage.rl_agg (l := 0) (l' := 0) _ aB rfl) rlL_nil)) (cImage.rl_agg (l := 1) (l' := 1) _ x6 rfl) rfl ?_
      obtain ⟨x7, hx7, hF⟩ := bnd_some hF
      refine call_eq (s_EqualImages_ok x5 x6 x7 hx7) rfl ((rlL_cons (cImage.rl_agg (l := 1) (l' := 0) _ x5 rfl) (rlL_cons (cImage.rl_agg (l := 1) (l' := 0) _ x6 rfl) rlL_nil))) rfl rfl ?_
      refine sxk 1 tabOK rfl ?_
      refine aops_nil ?_
      refine at_seq ?_
      refine at_keep [2, 3, 6] rfl ?_
      refine at_region ?_
      refine sxk 1 tabOK rfl ?_
      obtain ⟨x8, hx8, hF⟩ := bnd_some hF
      refine call_eq (w_toImage_ok aA x8 hx8) rfl ((rlL_cons (cImage.rl_agg (l := 0) (l' := 0) _ aA rfl) rlL_nil)) (cImage.rl_agg (l := 1) (l' := 1) _ x8 rfl) rfl ?_
      refine sxk 2 tabOK rfl ?_
      refine aops_nil ?_
      refine at_seq ?_
      refine at_region ?_
      refine sxk 1 tabOK rfl ?_
      obtain ⟨x9, hx9, hF⟩ := bnd_some hF
      refine call_eq (w_toImage_ok aB x9 hx9) rfl ((rlL_cons (cImage.rl_agg (l := 0) (l' := 0) _ aB rfl) rlL_nil)) (cImage.rl_agg (l := 1) (l' := 1) _ x9 rfl) rfl ?_
      refine sxk 2 tabOK rfl ?_
      refine aops_nil ?_
      refine at_seq ?_
      refine at_region ?_
      refine sxk 2 tabOK rfl ?_
      obtain ⟨x10, hx10, hF⟩ := bnd_some hF
      refine call_eq (i_EqualImages_ok x8 x9 x10 hx10) rfl ((rlL_cons (cImage.rl_agg (l := 1) (l' := 0) _ x8 rfl) (rlL_cons (cImage.rl_agg (l := 1) (l' := 0) _ x9 rfl) rlL_nil))) rfl rfl ?_
      refine sxk 1 tabOK rfl ?_
      refine aops_nil ?_
      refine at_seq ?_
      refine at_seq ?_
      refine at_keep [2, 3, 6, 7, 8, 9] rfl ?_
      refine at_region ?_
      refine sxk 2 tabOK rfl ?_
      refine sv rfl (ov_bne tabOK rfl rfl rfl) rfl ?_
      refine aops_nil ?_
      refine ct_ifn hF rfl (fun hc hF => ?_) (fun hc hF => ?_)
      · refine at_seq ?_
        refine at_keep [] rfl ?_
        refine at_region ?_
        refine sxk 1 tabOK rfl ?_
        refine aops_nil ?_
        refine at_ret ?_
        refine tk_r ?_
        obtain rfl := Option.some.inj hF
        refine ret_le rfl ?_
        exact (vle_refl _)
      · refine at_skip ?_
        refine at_seq ?_
        refine at_seq ?_
        refine at_drawnM (id := 14) 3 (by kernel_rfl) (by kernel_rfl) ?_
        refine nx tabOK rfl ?_
        refine nx tabOK rfl ?_
        obtain ⟨x11, hx11, hF⟩ := bnd_some hF
        refine n_call (w_toImage_ok aA x11 hx11) rfl ((rlL_cons (cImage.rl_agg (l := 0) (l' := 0) _ aA rfl) rlL_nil)) (cImage.rl_agg (l := 1) (l' := 1) _ x11 rfl) rfl ?_
        refine dn_nil rfl ?_
        obtain ⟨x12, hx12, hF⟩ := bnd_some hF
        refine call_eq (w_eqImage_ok x8 x11 x12 hx12) rfl ((rlL_cons (cImage.rl_agg (l := 1) (l' := 0) _ x8 rfl) (rlL_cons (cImage.rl_agg (l := 1) (l' := 0) _ x11 rfl) rlL_nil))) rfl rfl ?_
        refine sxk 1 tabOK rfl ?_
        refine aops_nil ?_
        refine ct_bn hF rfl (fun hc hF => ?_) (fun hc hF => ?_)
        · refine at_seq ?_
          refine at_keep [] rfl ?_
          refine at_region ?_
          refine sxk 1 tabOK rfl ?_
          refine aops_nil ?_
          refine at_ret ?_
          refine tk_r ?_
          obtain rfl := Option.some.inj hF
          refine ret_le rfl ?_
          exact (vle_refl _)
        · refine at_skip ?_
          refine at_seq ?_
          refine at_seq ?_
          refine at_keep [3, 8] rfl ?_
          refine at_drawnM (id := 16) 3 (by kernel_rfl) (by kernel_rfl) ?_
          refine nx tabOK rfl ?_
          refine nx tabOK rfl ?_
          obtain ⟨x13, hx13, hF⟩ := bnd_some hF
          refine n_call (w_toImage_ok aB x13 hx13) rfl ((rlL_cons (cImage.rl_agg (l := 0) (l' := 0) _ aB rfl) rlL_nil)) (cImage.rl_agg (l := 1) (l' := 1) _ x13 rfl) rfl ?_
          refine dn_nil rfl ?_
          obtain ⟨x14, hx14, hF⟩ := bnd_some hF
          refine call_eq (w_eqImage_ok x9 x13 x14 hx14) rfl ((rlL_cons (cImage.rl_agg (l := 1) (l' := 0) _ x9 rfl) (rlL_cons (cImage.rl_agg (l := 1) (l' := 0) _ x13 rfl) rlL_nil))) rfl rfl ?_
          refine sxk 1 tabOK rfl ?_
          refine aops_nil ?_
          refine ct_bn hF rfl (fun hc hF => ?_) (fun hc hF => ?_)
          · refine at_seq ?_
            refine at_keep [] rfl ?_
            refine at_region ?_
            refine sxk 1 tabOK rfl ?_
            refine aops_nil ?_
            refine at_ret ?_
            refine tk_r ?_
            obtain rfl := Option.some.inj hF
            refine ret_le rfl ?_
            exact (vle_refl _)
          · refine at_skip ?_
            refine at_seq ?_
            refine at_keep [] rfl ?_
            refine at_region ?_
            refine sxk 1 tabOK rfl ?_
            refine aops_nil ?_
            refine at_ret ?_
            obtain rfl := Option.some.inj hF
            refine ret_le rfl ?_
            exact (vle_refl _)

theorem s_l2Ints_ok (list : List Int) (q : List Int) (hF : s_l2Ints list = some q) : FC Try.prog 89 [.psl 0 1 (list.map (cInt.enc 0))] [] 3 (fun x _ => x = .psl 1 1 (q.map (cInt.enc 1))) := by
  refine FC.of_le ?_
  refine fc_body tabOK Try.func89 rfl Try.ntmps89 rfl rfl rfl ?_
  unfold s_l2Ints at hF
  refine at_seq ?_
  refine at_region ?_
  refine sxk 1 tabOK rfl ?_
  refine aops_nil ?_
  refine at_seq ?_
  refine at_region ?_
  refine sc_slit cInt (l := 0) ([] : List Int) tabOK rfl rfl rfl rfl rfl rfl rfl ?_
  refine sxk 1 tabOK rfl ?_
  obtain ⟨hb, hF⟩ := chk_some hF
  refine sc_append cInt (l := 0) (xs := ([] : List Int)) (ys := list) hb rfl tabOK rfl rfl rfl rfl rfl rfl rfl (srcC_psl cInt rfl rfl rfl) rfl ?_
  refine sxk 1 tabOK rfl ?_
  refine aops_nil ?_
  refine at_le (le_freeze 2 rfl rfl (by simp) rfl) ?_
  refine at_ret ?_
  obtain rfl := Option.some.inj hF
  refine ret_le rfl ?_
  exact (vle_refl _)

end Go.Proofs.Ytiecdekmiabmkaa
