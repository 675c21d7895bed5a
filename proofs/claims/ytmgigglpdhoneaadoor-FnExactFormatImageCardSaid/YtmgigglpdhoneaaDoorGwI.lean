/-
  Walks, made by wip/gen: I
-/
import Derived.Test.YtmgigglpdhoneaaDoorGpI
import Derived.Test.YtmgigglpdhoneaaDoorGwH
set_option linter.unusedVariables false
set_option linter.unusedSimpArgs false
namespace Go.Proofs.YtmgigglpdhoneaaDoor
open Go.Abs
attribute [local irreducible] AT AOps FC DR DN
set_option maxRecDepth 10000
set_option maxHeartbeats 4000000

theorem w_FnExactFormatImage_ok (aM : PImage) (q : Bool) (hF : w_FnExactFormatImage aM = some q) : FC Tryd.prog 3 [.agg (cImage.row 0 aM)] [] 3 (fun x _ => x = .bool q) := by
 refine FC.of_le ?_
 refine fc_body tabOK Tryd.func3 rfl Tryd.ntmps3 rfl rfl rfl ?_
 unfold w_FnExactFormatImage at hF
 refine at_seq (at_region (sxk 2 tabOK rfl ?_))
 refine aops_nil (at_seq (at_region (sxk 1 tabOK rfl ?_)))
 refine aops_nil (at_seq (at_region (sxk 2 tabOK rfl ?_)))
 obtain ⟨x2, hx2, hF⟩ := bnd_some hF
 refine call_eq (w_szImage_ok aM 1048576 x2 hx2) rfl ((rlL_cons (cImage.rl_agg (l := 0) (l' := 0) _ aM rfl) (rlL_cons (rfl) rlL_nil))) rfl rfl ?_
 refine sxk 1 tabOK rfl ?_
 refine aops_nil (at_seq (at_seq (at_region (sxk 2 tabOK rfl ?_))))
 refine aops_nil (ct_if hF rfl (fun hc hF => ?_) (fun hc hF => ?_))
 ·refine at_seq (at_keep [] rfl ?_)
  refine at_region (sxk 1 tabOK rfl ?_)
  refine aops_nil (at_ret (tk_r ?_))
  obtain rfl := Option.some.inj hF
  refine ret_le rfl ?_
  exact (vle_refl _)
 ·refine at_skip (at_seq (at_keep [1] rfl ?_))
  refine at_region (sxk 1 tabOK rfl ?_)
  obtain ⟨x3, hx3, hF⟩ := bnd_some hF
  refine call_eq (w_toImage_ok aM x3 hx3) rfl ((rlL_cons (cImage.rl_agg (l := 0) (l' := 0) _ aM rfl) rlL_nil)) (cImage.rl_agg (l := 1) (l' := 1) _ x3 rfl) rfl ?_
  obtain ⟨x4, hx4, hF⟩ := bnd_some hF
  refine call_eq (s_FormatImage_ok x3 x4 hx4) rfl ((rlL_cons (cImage.rl_agg (l := 1) (l' := 0) _ x3 rfl) rlL_nil)) (cStr.rl_psl (l := 1) (l' := 1) _ x4 rfl) rfl ?_
  refine sxk 1 tabOK rfl ?_
  refine aops_nil (at_seq (at_region (sxk 1 tabOK rfl ?_)))
  obtain ⟨x5, hx5, hF⟩ := bnd_some hF
  refine call_o1 (w_toImage_own aM x5 hx5) rfl (rdL_cons (rd_rl (cImage.rl_agg (l := 0) (l' := 0) _ aM rfl)) rdL_nil) (Cd.rlR cCode f01 2 _) rfl (fun j => by simp [V.rnA, V.rnAL, V.rl, upJ, dn]) rfl ?_
  refine sxk 1 tabOK rfl ?_
  refine sc_storeX tabOK rfl rfl rfl rfl rfl (one_cons (one_h rfl (by simp)) (one_cons (one_v rfl) one_nil)) rfl rfl rfl ?_
  refine aops_nil (at_seq (at_region (sxk 1 tabOK rfl ?_)))
  obtain ⟨x6, hx6, hF⟩ := bnd_some hF
  refine call_o1 (i_FormatImage_own x5 x6 hx6) rfl (rdL_cons (rd_agg (rdL_cons (rd_hslD rfl (by simp) rfl (Cd.dps0 cCode 2 (fun _ => rfl) _) (cCode.rlR (fun _ => 0) 2 _)) (rdL_cons (rd_rl (rfl)) rdL_nil))) rdL_nil) (Cd.rlR cStr f01 0 _) rfl (fun j => by simp [V.rnA, V.rnAL, V.rl, upJ, dn]) rfl ?_
  refine sxk 1 tabOK rfl ?_
  refine aops_nil (at_seq (at_seq (at_keep [1, 4, 5, 6] rfl ?_)))
  refine at_region (sxk 2 tabOK rfl ?_)
  obtain ⟨x7, hx7, hF⟩ := bnd_some hF
  refine call_rdx (w_eqStringS_ok x6 x4 x7 hx7) rfl (rdL_cons (rd_hslF rfl (by simp) (cStr.rlR _ 0 _)) (rdL_cons (rd_rl (cStr.rl_psl (l := 1) (l' := 0) _ x4 rfl)) rdL_nil)) rfl rfl ?_
  refine sxk 1 tabOK rfl ?_
  refine aops_nil (ct_bn hF rfl (fun hc hF => ?_) (fun hc hF => ?_))
  ·refine at_seq (at_keep [] rfl ?_)
   refine at_region (sxk 1 tabOK rfl ?_)
   refine aops_nil (at_ret (tk_r ?_))
   obtain rfl := Option.some.inj hF
   refine ret_le rfl ?_
   exact (vle_refl _)
  ·refine at_skip (at_seq (at_seq (at_drawnM (id := 10) 3 (by kernel_rfl) (by kernel_rfl) ?_)))
   refine nx tabOK rfl ?_
   refine nx tabOK rfl ?_
   obtain ⟨x8, hx8, hF⟩ := bnd_some hF
   refine n_call (w_toImage_ok aM x8 hx8) rfl ((rlL_cons (cImage.rl_agg (l := 0) (l' := 0) _ aM rfl) rlL_nil)) (cImage.rl_agg (l := 1) (l' := 1) _ x8 rfl) rfl ?_
   refine dn_nil rfl ?_
   obtain ⟨x9, hx9, hF⟩ := bnd_some hF
   refine call_rdx (w_eqImage_ok x5 x8 x9 hx9) rfl (rdL_cons (rd_agg (rdL_cons (rd_hslD rfl (by simp) rfl (Cd.dps0 cCode 2 (fun _ => rfl) _) (cCode.rlR (fun _ => 0) 2 _)) (rdL_cons (rd_rl (rfl)) rdL_nil))) (rdL_cons (rd_rl (cImage.rl_agg (l := 1) (l' := 0) _ x8 rfl)) rdL_nil)) rfl rfl ?_
   refine sxk 1 tabOK rfl ?_
   refine aops_nil (ct_bn hF rfl (fun hc hF => ?_) (fun hc hF => ?_))
   ·refine at_seq (at_keep [] rfl ?_)
    refine at_region (sxk 1 tabOK rfl ?_)
    refine aops_nil (at_ret (tk_r ?_))
    obtain rfl := Option.some.inj hF
    refine ret_le rfl ?_
    exact (vle_refl _)
   ·refine at_skip (at_seq (at_keep [1, 4, 5, 6] rfl ?_))
    refine at_region (sxk 1 tabOK rfl ?_)
    refine aops_nil (at_seq (at_region (sxk 2 tabOK rfl ?_)))
    obtain ⟨x10, hx10, hF⟩ := bnd_some hF
    obtain ⟨hb_x10, hF⟩ := chk_some hF
    refine call_lend1 4 (w_markImage_ok x5 1 x10 hx10) rfl (rnL_cons rfl (rnL_cons rfl rnL_nil)) rfl (Cd.rnR cCode _ x5.codes rfl) (rn_of_rl _ rfl) (Cd.rnR cCode _ x10.2 rfl) rfl ?_
    refine sxk 1 tabOK rfl ?_
    refine aops_nil (at_seq (at_seq (at_region (sxk 3 tabOK rfl ?_))))
    refine ops_if (g := 37) hF rfl (fun hc hF => ?_) (fun hc hF => ?_)
    ·refine sxk 5 tabOK rfl ?_
     refine aops_nil (at_true rfl (at_seq (at_keep [] rfl ?_)))
     refine at_region (sxk 1 tabOK rfl ?_)
     refine aops_nil (at_ret (tk_r ?_))
     obtain rfl := Option.some.inj hF
     refine ret_le rfl ?_
     exact (vle_refl _)
    ·refine sxk 2 tabOK rfl ?_
     obtain ⟨x11, hx11, hF⟩ := bnd_some hF
     refine call_rdx (w_eqStringS_ok x6 x4 x11 hx11) rfl (rdL_cons (rd_hslF rfl (by simp) (cStr.rlR _ 0 _)) (rdL_cons (rd_rl (cStr.rl_psl (l := 1) (l' := 0) _ x4 rfl)) rdL_nil)) rfl rfl ?_
     refine sxk 2 tabOK rfl ?_
     refine aops_nil (ct_bn hF rfl (fun hc hF => ?_) (fun hc hF => ?_))
     ·refine at_seq (at_keep [] rfl ?_)
      refine at_region (sxk 1 tabOK rfl ?_)
      refine aops_nil (at_ret (tk_r ?_))
      obtain rfl := Option.some.inj hF
      refine ret_le rfl ?_
      exact (vle_refl _)
     ·refine at_skip (at_seq (at_keep [1, 4, 6] rfl ?_))
      refine at_region (sxk 1 tabOK rfl ?_)
      refine aops_nil (at_seq (at_region (sxk 2 tabOK rfl ?_)))
      obtain ⟨x12, hx12, hF⟩ := bnd_some hF
      obtain ⟨hb_x12, hF⟩ := chk_some hF
      refine call_lend1 6 (w_markStringS_ok x6 1 x12 hx12) rfl (rnL_cons rfl (rnL_cons rfl rnL_nil)) rfl (Cd.rnR cStr _ x6 rfl) (rn_of_rl _ rfl) (Cd.rnR cStr _ x12.2 rfl) rfl ?_
      refine ops_le (le_slot (y := .hsl 6 0 x12.2.length) 6 rfl (vle_eq (congrArg (V.hsl 6 0) hb_x12.symm)) rfl) ?_
      refine sxk 1 tabOK rfl ?_
      refine aops_nil (at_seq (at_region (sxk 1 tabOK rfl ?_)))
      refine aops_nil (at_seq (at_region (sxk 2 tabOK rfl ?_)))
      obtain ⟨x13, hx13, hF⟩ := bnd_some hF
      refine call_rdx (w_heldStringS_ok x12.2 1 x13 hx13) rfl (rdL_cons (rd_hslF rfl (by simp) (cStr.rlR _ 0 _)) (rdL_cons (rd_rl (rfl)) rdL_nil)) rfl rfl ?_
      refine sxk 1 tabOK rfl ?_
      refine aops_nil (at_seq (at_seq (at_region (sxk 2 tabOK rfl ?_))))
      refine aops_nil (ct_if hF rfl (fun hc hF => ?_) (fun hc hF => ?_))
      ·refine at_seq (at_keep [] rfl ?_)
       refine at_region (sxk 1 tabOK rfl ?_)
       refine aops_nil (at_ret (tk_r ?_))
       obtain rfl := Option.some.inj hF
       refine ret_le rfl ?_
       exact (vle_refl _)
      ·refine at_skip (at_seq (at_seq (at_keep [1, 4, 6, 8, 9] rfl ?_)))
       refine at_region (sxk 3 tabOK rfl ?_)
       refine aops_nil (ct_ifn hF rfl (fun hc hF => ?_) (fun hc hF => ?_))
       ·refine at_seq (at_keep [] rfl ?_)
        refine at_region (sxk 1 tabOK rfl ?_)
        refine aops_nil (at_ret (tk_r ?_))
        obtain rfl := Option.some.inj hF
        refine ret_le rfl ?_
        exact (vle_refl _)
       ·refine at_skip (at_seq (at_region (sxk 1 tabOK rfl ?_)))
        obtain ⟨x14, hx14, hF⟩ := bnd_some hF
        refine call_eq (w_toImage_ok aM x14 hx14) rfl ((rlL_cons (cImage.rl_agg (l := 0) (l' := 0) _ aM rfl) rlL_nil)) (cImage.rl_agg (l := 1) (l' := 1) _ x14 rfl) rfl ?_
        obtain ⟨x15, hx15, hF⟩ := bnd_some hF
        refine call_o1 (i_FormatImage_own x14 x15 hx15) rfl (rdL_cons (rd_rl (cImage.rl_agg (l := 1) (l' := 0) _ x14 rfl)) rdL_nil) (Cd.rlR cStr f01 0 _) rfl (fun j => by simp [V.rnA, V.rnAL, V.rl, upJ, dn]) rfl ?_
        refine sxk 1 tabOK rfl ?_
        refine aops_nil (at_seq (at_seq (at_keep [4, 6, 8, 10] rfl ?_)))
        refine at_region (sxk 2 tabOK rfl ?_)
        obtain ⟨x16, hx16, hF⟩ := bnd_some hF
        refine call_rdx (w_eqStringS_ok x15 x4 x16 hx16) rfl (rdL_cons (rd_hslF rfl (by simp) (cStr.rlR _ 0 _)) (rdL_cons (rd_rl (cStr.rl_psl (l := 1) (l' := 0) _ x4 rfl)) rdL_nil)) rfl rfl ?_
        refine sxk 1 tabOK rfl ?_
        refine aops_nil (ct_bn hF rfl (fun hc hF => ?_) (fun hc hF => ?_))
        ·refine at_seq (at_keep [] rfl ?_)
         refine at_region (sxk 1 tabOK rfl ?_)
         refine aops_nil (at_ret (tk_r ?_))
         obtain rfl := Option.some.inj hF
         refine ret_le rfl ?_
         exact (vle_refl _)
        ·refine at_skip (at_seq (at_region (sxk 1 tabOK rfl ?_)))
         refine aops_nil (at_seq (at_region (sxk 2 tabOK rfl ?_)))
         obtain ⟨x17, hx17, hF⟩ := bnd_some hF
         refine call_rdx (w_heldStringS_ok x12.2 1 x17 hx17) rfl (rdL_cons (rd_hslF rfl (by simp) (cStr.rlR _ 0 _)) (rdL_cons (rd_rl (rfl)) rdL_nil)) rfl rfl ?_
         refine sxk 1 tabOK rfl ?_
         refine aops_nil (at_seq (at_seq (at_keep [8, 9] rfl ?_)))
         refine at_region (sxk 2 tabOK rfl ?_)
         refine aops_nil (ct_if hF rfl (fun hc hF => ?_) (fun hc hF => ?_))
         ·refine at_seq (at_region (sxk 1 tabOK rfl ?_))
          refine aops_nil (at_ret (tk_r ?_))
          obtain rfl := Option.some.inj hF
          refine ret_le rfl ?_
          exact (vle_refl _)
         ·refine at_skip (at_seq (at_seq (at_region (sxk 3 tabOK rfl ?_))))
          refine aops_nil (ct_ifn hF rfl (fun hc hF => ?_) (fun hc hF => ?_))
          ·refine at_seq (at_keep [] rfl ?_)
           refine at_region (sxk 1 tabOK rfl ?_)
           refine aops_nil (at_ret (tk_r ?_))
           obtain rfl := Option.some.inj hF
           refine ret_le rfl ?_
           exact (vle_refl _)
          ·refine at_skip (at_seq (at_keep [] rfl ?_))
           refine at_region (sxk 1 tabOK rfl ?_)
           refine aops_nil (at_ret ?_)
           obtain rfl := Option.some.inj hF
           refine ret_le rfl ?_
           exact (vle_refl _)

end Go.Proofs.YtmgigglpdhoneaaDoor
