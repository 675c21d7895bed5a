/-
  Walks, made by wip/gen: F
-/
import Derived.Test.YtiecdekmiabmkaaDoorGpF
import Derived.Test.YtiecdekmiabmkaaDoorTabD1
import Derived.Test.YtiecdekmiabmkaaDoorLibG
import Derived.Test.YtiecdekmiabmkaaDoorItoaD
set_option linter.unusedVariables false
set_option linter.unusedSimpArgs false
namespace Go.Proofs.YtiecdekmiabmkaaDoor
open Go.Abs
attribute [local irreducible] AT AOps FC DR DN
set_option maxRecDepth 10000
set_option maxHeartbeats 4000000

theorem i_FormatNumber_ok (x_1 : Int) (q : List UInt8) (hF : i_FormatNumber x_1 = some q) : FC Tryd.prog 36 [.int .i64 x_1] [] 3 (fun x _ => x = .str q) := by
  refine FC.of_le ?_
  refine fc_body tabOK Tryd.func36 rfl Tryd.ntmps36 rfl rfl rfl ?_
  unfold i_FormatNumber at hF
  refine at_seq ?_
  refine at_region ?_
  refine sxk 1 tabOK rfl ?_
  refine aops_nil ?_
  refine at_seq ?_
  refine at_region ?_
  refine sxk 1 tabOK rfl ?_
  obtain ⟨x2, hx2, hF⟩ := bnd_some hF
  refine call_eq (x_Itoa_ok x_1 x2 hx2) rfl ((rlL_cons (rfl) rlL_nil)) rfl rfl ?_
  refine sxk 1 tabOK rfl ?_
  refine aops_nil ?_
  refine at_ret ?_
  obtain rfl := Option.some.inj hF
  refine ret_le rfl ?_
  exact (vle_refl _)

theorem i_isDigit_ok (b : Int) (q : Bool) (hF : i_isDigit b = some q) : FC Tryd.prog 68 [.int .u8 b] [] 3 (fun x _ => x = .bool q) := by
  refine FC.of_le ?_
  refine fc_body tabOK Tryd.func68 rfl Tryd.ntmps68 rfl rfl rfl ?_
  unfold i_isDigit at hF
  refine at_seq ?_
  refine at_region ?_
  refine sxk 1 tabOK rfl ?_
  refine aops_nil ?_
  refine at_seq ?_
  refine at_region ?_
  refine sxk 3 tabOK rfl ?_
  refine ops_if (g := 5) hF rfl (fun hc hF => ?_) (fun hc hF => ?_)
  · refine sxk 4 tabOK rfl ?_
    refine aops_nil ?_
    refine at_ret ?_
    obtain rfl := Option.some.inj hF
    refine ret_le rfl ?_
    exact (vle_refl _)
  · refine sxk 4 tabOK rfl ?_
    refine aops_nil ?_
    refine at_ret ?_
    obtain rfl := Option.some.inj hF
    refine ret_le rfl ?_
    exact (vle_refl _)

theorem i_symbolByte_ok (b : Int) (q : Bool) (hF : i_symbolByte b = some q) : FC Tryd.prog 69 [.int .u8 b] [] 3 (fun x _ => x = .bool q) := by
  refine FC.of_le ?_
  refine fc_body tabOK Tryd.func69 rfl Tryd.ntmps69 rfl rfl rfl ?_
  unfold i_symbolByte at hF
  refine at_seq ?_
  refine at_region ?_
  refine sxk 1 tabOK rfl ?_
  refine aops_nil ?_
  refine at_seq ?_
  refine at_seq ?_
  refine cl_midn (σ := Bool) (fun x2 => ⟨[(0, .int .u8 b), (16, .bool x2)], [], 3, 30, []⟩) (fun x2 => i_symbolByte_J1 b x2 = some q) ?_ ?_
  · refine at_region ?_
    refine sxk 3 tabOK rfl ?_
    refine ops_if (g := 5) hF rfl (fun hc hF => ?_) (fun hc hF => ?_)
    · refine sxk 4 tabOK rfl ?_
      refine ops_if (g := 9) hF rfl (fun hc hF => ?_) (fun hc hF => ?_)
      · refine sxk 7 tabOK rfl ?_
        refine aops_nil ?_
        exact arr_cut ⟨true, hF, (le_down (down_all (ee_cons rfl rfl rfl (ee_cons rfl rfl rfl ee_nil)) he_nil rfl rfl rfl rfl))⟩
      · refine sxk 3 tabOK rfl ?_
        refine ops_if (g := 12) hF rfl (fun hc hF => ?_) (fun hc hF => ?_)
        · refine sxk 4 tabOK rfl ?_
          refine aops_nil ?_
          exact arr_cut ⟨(decide (b ≤ 57)), hF, (le_down (down_all (ee_cons rfl rfl rfl (ee_cons rfl rfl rfl ee_nil)) he_nil rfl rfl rfl rfl))⟩
        · refine sxk 4 tabOK rfl ?_
          refine aops_nil ?_
          exact arr_cut ⟨false, hF, (le_down (down_all (ee_cons rfl rfl rfl (ee_cons rfl rfl rfl ee_nil)) he_nil rfl rfl rfl rfl))⟩
    · refine sxk 7 tabOK rfl ?_
      refine ops_if (g := 12) hF rfl (fun hc hF => ?_) (fun hc hF => ?_)
      · refine sxk 4 tabOK rfl ?_
        refine aops_nil ?_
        exact arr_cut ⟨(decide (b ≤ 57)), hF, (le_down (down_all (ee_cons rfl rfl rfl (ee_cons rfl rfl rfl ee_nil)) he_nil rfl rfl rfl rfl))⟩
      · refine sxk 4 tabOK rfl ?_
        refine aops_nil ?_
        exact arr_cut ⟨false, hF, (le_down (down_all (ee_cons rfl rfl rfl (ee_cons rfl rfl rfl ee_nil)) he_nil rfl rfl rfl rfl))⟩
  · rintro x2 hF
    refine at_eq (s' := ⟨[(0, .int .u8 b), (16, .bool x2)], [], 3, 30, []⟩) rfl ?_
    replace hF : i_symbolByte_J1 b x2 = some q := hF
    unfold i_symbolByte_J1 at hF
    refine ct_b hF rfl (fun hc hF => ?_) (fun hc hF => ?_)
    · refine at_seq ?_
      refine at_region ?_
      refine sxk 1 tabOK rfl ?_
      refine aops_nil ?_
      refine at_ret ?_
      refine tk_r ?_
      obtain rfl := Option.some.inj hF
      refine ret_le rfl ?_
      exact (vle_refl _)
    · refine at_skip ?_
      refine at_seq ?_
      refine at_seq ?_
      refine at_region ?_
      refine sxk 1 tabOK rfl ?_
      refine aops_nil ?_
      refine at_block ?_
      refine at_seq ?_
      refine at_seq ?_
      refine at_region ?_
      refine sxk 2 tabOK rfl ?_
      refine aops_nil ?_
      refine ct_if hF rfl (fun hc hF => ?_) (fun hc hF => ?_)
      · refine at_skip ?_
        refine at_true rfl ?_
        refine at_seq ?_
        refine at_region ?_
        refine sxk 1 tabOK rfl ?_
        refine aops_nil ?_
        refine at_ret ?_
        refine bk_r ?_
        refine tk_r ?_
        obtain rfl := Option.some.inj hF
        refine ret_le rfl ?_
        exact (vle_refl _)
      · refine at_seq ?_
        refine at_region ?_
        refine sxk 2 tabOK rfl ?_
        refine aops_nil ?_
        refine ct_if hF rfl (fun hc hF => ?_) (fun hc hF => ?_)
        · refine at_skip ?_
          refine at_true rfl ?_
          refine at_seq ?_
          refine at_region ?_
          refine sxk 1 tabOK rfl ?_
          refine aops_nil ?_
          refine at_ret ?_
          refine bk_r ?_
          refine tk_r ?_
          obtain rfl := Option.some.inj hF
          refine ret_le rfl ?_
          exact (vle_refl _)
        · refine at_seq ?_
          refine at_region ?_
          refine sxk 2 tabOK rfl ?_
          refine aops_nil ?_
          refine ct_if hF rfl (fun hc hF => ?_) (fun hc hF => ?_)
          · refine at_skip ?_
            refine at_true rfl ?_
            refine at_seq ?_
            refine at_keep [] rfl ?_
            refine at_region ?_
            refine sxk 1 tabOK rfl ?_
            refine aops_nil ?_
            refine at_ret ?_
            refine bk_r ?_
            refine tk_r ?_
            obtain rfl := Option.some.inj hF
            refine ret_le rfl ?_
            exact (vle_refl _)
          · refine at_seq ?_
            refine at_region ?_
            refine sxk 2 tabOK rfl ?_
            refine aops_nil ?_
            refine ct_if hF rfl (fun hc hF => ?_) (fun hc hF => ?_)
            · refine at_skip ?_
              refine at_true rfl ?_
              refine at_seq ?_
              refine at_keep [] rfl ?_
              refine at_region ?_
              refine sxk 1 tabOK rfl ?_
              refine aops_nil ?_
              refine at_ret ?_
              refine bk_r ?_
              refine tk_r ?_
              obtain rfl := Option.some.inj hF
              refine ret_le rfl ?_
              exact (vle_refl _)
            · refine at_seq ?_
              refine at_keep [17] rfl ?_
              refine at_region ?_
              refine sxk 2 tabOK rfl ?_
              refine aops_nil ?_
              refine ct_if hF rfl (fun hc hF => ?_) (fun hc hF => ?_)
              · refine at_skip ?_
                refine at_true rfl ?_
                refine at_seq ?_
                refine at_region ?_
                refine sxk 1 tabOK rfl ?_
                refine aops_nil ?_
                refine at_ret ?_
                refine bk_r ?_
                refine tk_r ?_
                obtain rfl := Option.some.inj hF
                refine ret_le rfl ?_
                exact (vle_refl _)
              · refine at_seq ?_
                refine at_region ?_
                refine sxk 2 tabOK rfl ?_
                refine aops_nil ?_
                refine ct_if hF rfl (fun hc hF => ?_) (fun hc hF => ?_)
                · refine at_skip ?_
                  refine at_true rfl ?_
                  refine at_seq ?_
                  refine at_region ?_
                  refine sxk 1 tabOK rfl ?_
                  refine aops_nil ?_
                  refine at_ret ?_
                  refine bk_r ?_
                  refine tk_r ?_
                  obtain rfl := Option.some.inj hF
                  refine ret_le rfl ?_
                  exact (vle_refl _)
                · refine at_seq ?_
                  refine at_region ?_
                  refine sxk 2 tabOK rfl ?_
                  refine aops_nil ?_
                  refine ct_if hF rfl (fun hc hF => ?_) (fun hc hF => ?_)
                  · refine at_skip ?_
                    refine at_true rfl ?_
                    refine at_seq ?_
                    refine at_region ?_
                    refine sxk 1 tabOK rfl ?_
                    refine aops_nil ?_
                    refine at_ret ?_
                    refine bk_r ?_
                    refine tk_r ?_
                    obtain rfl := Option.some.inj hF
                    refine ret_le rfl ?_
                    exact (vle_refl _)
                  · refine at_seq ?_
                    refine at_region ?_
                    refine sxk 2 tabOK rfl ?_
                    refine aops_nil ?_
                    refine ct_if hF rfl (fun hc hF => ?_) (fun hc hF => ?_)
                    · refine at_skip ?_
                      refine at_true rfl ?_
                      refine at_seq ?_
                      refine at_region ?_
                      refine sxk 1 tabOK rfl ?_
                      refine aops_nil ?_
                      refine at_ret ?_
                      refine bk_r ?_
                      refine tk_r ?_
                      obtain rfl := Option.some.inj hF
                      refine ret_le rfl ?_
                      exact (vle_refl _)
                    · refine at_seq ?_
                      refine at_region ?_
                      refine sxk 2 tabOK rfl ?_
                      refine aops_nil ?_
                      refine ct_if hF rfl (fun hc hF => ?_) (fun hc hF => ?_)
                      · refine at_skip ?_
                        refine at_true rfl ?_
                        refine at_seq ?_
                        refine at_keep [] rfl ?_
                        refine at_region ?_
                        refine sxk 1 tabOK rfl ?_
                        refine aops_nil ?_
                        refine at_ret ?_
                        refine bk_r ?_
                        refine tk_r ?_
                        obtain rfl := Option.some.inj hF
                        refine ret_le rfl ?_
                        exact (vle_refl _)
                      · refine at_seq ?_
                        refine at_region ?_
                        refine sxk 2 tabOK rfl ?_
                        refine aops_nil ?_
                        refine ct_if hF rfl (fun hc hF => ?_) (fun hc hF => ?_)
                        · refine at_skip ?_
                          refine at_true rfl ?_
                          refine at_seq ?_
                          refine at_keep [] rfl ?_
                          refine at_region ?_
                          refine sxk 1 tabOK rfl ?_
                          refine aops_nil ?_
                          refine at_ret ?_
                          refine bk_r ?_
                          refine tk_r ?_
                          obtain rfl := Option.some.inj hF
                          refine ret_le rfl ?_
                          exact (vle_refl _)
                        · refine at_keep [17] rfl ?_
                          refine at_region ?_
                          refine sxk 2 tabOK rfl ?_
                          refine aops_nil ?_
                          refine ct_if hF rfl (fun hc hF => ?_) (fun hc hF => ?_)
                          · refine at_seq ?_
                            refine at_region ?_
                            refine sxk 1 tabOK rfl ?_
                            refine aops_nil ?_
                            refine at_ret ?_
                            refine bk_r ?_
                            refine tk_r ?_
                            obtain rfl := Option.some.inj hF
                            refine ret_le rfl ?_
                            exact (vle_refl _)
                          · refine at_skip ?_
                            refine bk_n ?_
                            refine at_seq ?_
                            refine at_region ?_
                            refine sxk 1 tabOK rfl ?_
                            refine aops_nil ?_
                            refine at_ret ?_
                            obtain rfl := Option.some.inj hF
                            refine ret_le rfl ?_
                            exact (vle_refl _)

theorem i_IsSymbol_ok (s : List UInt8) (q : Bool) (hF : i_IsSymbol s = some q) : FC Tryd.prog 58 [.str s] [] 3 (fun x _ => x = .bool q) := by
  refine FC.of_le ?_
  refine fc_body tabOK Tryd.func58 rfl Tryd.ntmps58 rfl rfl rfl ?_
  unfold i_IsSymbol at hF
  refine at_seq ?_
  refine at_region ?_
  refine sxk 1 tabOK rfl ?_
  refine aops_nil ?_
  refine at_seq ?_
  refine at_seq ?_
  refine cl_midn (σ := Bool) (fun x2 => ⟨[(0, .str s), (31, .bool x2)], [], 3, 43, []⟩) (fun x2 => i_IsSymbol_J1 s x2 = some q) ?_ ?_
  · refine at_region ?_
    refine sxk 4 tabOK rfl ?_
    refine ops_if (g := 7) hF rfl (fun hc hF => ?_) (fun hc hF => ?_)
    · refine sxk 24 tabOK rfl ?_
      refine aops_nil ?_
      exact arr_cut ⟨true, hF, (le_down (down_all (ee_cons rfl rfl rfl (ee_cons rfl rfl rfl ee_nil)) he_nil rfl rfl rfl rfl))⟩
    · refine sxk 5 tabOK rfl ?_
      refine ops_if (g := 12) hF rfl (fun hc hF => ?_) (fun hc hF => ?_)
      · refine sxk 19 tabOK rfl ?_
        refine aops_nil ?_
        exact arr_cut ⟨true, hF, (le_down (down_all (ee_cons rfl rfl rfl (ee_cons rfl rfl rfl ee_nil)) he_nil rfl rfl rfl rfl))⟩
      · refine sxk 1 tabOK rfl ?_
        obtain ⟨x2, hn_x2, hF⟩ := bnd_some hF
        refine sv rfl (oc_byte hn_x2 tabOK rfl rfl rfl) rfl ?_
        obtain ⟨x3, hx3, hF⟩ := bnd_some hF
        refine call_eq (i_isDigit_ok (x2.toNat : Int) x3 hx3) rfl ((rlL_cons (rfl) rlL_nil)) rfl rfl ?_
        refine sxk 2 tabOK rfl ?_
        refine ops_ifb (g := 17) hF rfl (fun hc hF => ?_) (fun hc hF => ?_)
        · refine sxk 14 tabOK rfl ?_
          refine aops_nil ?_
          exact arr_cut ⟨true, hF, (le_down (down_all (ee_cons rfl rfl rfl (ee_cons rfl rfl rfl ee_nil)) he_nil rfl rfl rfl rfl))⟩
        · refine sxk 1 tabOK rfl ?_
          obtain ⟨x4, hn_x4, hF⟩ := bnd_some hF
          refine sv rfl (oc_byte hn_x4 tabOK rfl rfl rfl) rfl ?_
          refine sxk 2 tabOK rfl ?_
          refine ops_if (g := 21) hF rfl (fun hc hF => ?_) (fun hc hF => ?_)
          · refine sxk 5 tabOK rfl ?_
            refine ops_if (g := 26) hF rfl (fun hc hF => ?_) (fun hc hF => ?_)
            · refine sxk 1 tabOK rfl ?_
              obtain ⟨x5, hn_x5, hF⟩ := bnd_some hF
              refine sv rfl (oc_byte hn_x5 tabOK rfl rfl rfl) rfl ?_
              obtain ⟨x6, hx6, hF⟩ := bnd_some hF
              refine call_eq (i_isDigit_ok (x5.toNat : Int) x6 hx6) rfl ((rlL_cons (rfl) rlL_nil)) rfl rfl ?_
              refine sxk 2 tabOK rfl ?_
              refine aops_nil ?_
              exact arr_cut ⟨x6, hF, (le_down (down_all (ee_cons rfl rfl rfl (ee_cons rfl rfl rfl ee_nil)) he_nil rfl rfl rfl rfl))⟩
            · refine sxk 5 tabOK rfl ?_
              refine aops_nil ?_
              exact arr_cut ⟨false, hF, (le_down (down_all (ee_cons rfl rfl rfl (ee_cons rfl rfl rfl ee_nil)) he_nil rfl rfl rfl rfl))⟩
          · refine sxk 10 tabOK rfl ?_
            refine aops_nil ?_
            exact arr_cut ⟨false, hF, (le_down (down_all (ee_cons rfl rfl rfl (ee_cons rfl rfl rfl ee_nil)) he_nil rfl rfl rfl rfl))⟩
  · rintro x2 hF
    refine at_eq (s' := ⟨[(0, .str s), (31, .bool x2)], [], 3, 43, []⟩) rfl ?_
    replace hF : i_IsSymbol_J1 s x2 = some q := hF
    unfold i_IsSymbol_J1 at hF
    refine ct_b hF rfl (fun hc hF => ?_) (fun hc hF => ?_)
    · refine at_seq ?_
      refine at_region ?_
      refine sxk 1 tabOK rfl ?_
      refine aops_nil ?_
      refine at_ret ?_
      refine tk_r ?_
      obtain rfl := Option.some.inj hF
      refine ret_le rfl ?_
      exact (vle_refl _)
    · refine at_skip ?_
      refine at_seq ?_
      refine at_seq ?_
      refine at_region ?_
      refine sxk 1 tabOK rfl ?_
      refine aops_nil ?_
      refine at_block ?_
      refine cl_loop (σ := Int) (fun i3 => ⟨[(0, .str s), (3, .int .i64 i3)], [], 3, 43, []⟩) (i_IsSymbol_L2 s) LF 0 hF (le_down (down_all (ee_cons rfl rfl rfl (ee_cons rfl rfl rfl ee_nil)) he_nil rfl rfl rfl rfl)) ?_
      rintro lk_ i3 hF
      refine at_eq (s' := ⟨[(0, .str s), (3, .int .i64 i3)], [], 3, 43, []⟩) rfl ?_
      replace hF : i_IsSymbol_L2b s (itr (i_IsSymbol_L2 s) lk_) i3 = some q := hF
      unfold i_IsSymbol_L2b at hF
      generalize itr (i_IsSymbol_L2 s) lk_ = go4 at hF ⊢
      refine at_seq ?_
      refine at_seq ?_
      refine at_region ?_
      refine sxk 4 tabOK rfl ?_
      refine aops_nil ?_
      refine ct_if hF rfl (fun hc hF => ?_) (fun hc hF => ?_)
      · refine at_skip ?_
        refine at_seq ?_
        refine at_block ?_
        refine at_seq ?_
        refine at_region ?_
        refine sxk 2 tabOK rfl ?_
        obtain ⟨x5, hn_x5, hF⟩ := bnd_some hF
        refine sv rfl (oc_byte hn_x5 tabOK rfl rfl rfl) rfl ?_
        obtain ⟨x6, hx6, hF⟩ := bnd_some hF
        refine call_eq (i_symbolByte_ok (x5.toNat : Int) x6 hx6) rfl ((rlL_cons (rfl) rlL_nil)) rfl rfl ?_
        refine sxk 1 tabOK rfl ?_
        refine aops_nil ?_
        refine ct_bn hF rfl (fun hc hF => ?_) (fun hc hF => ?_)
        · refine at_seq ?_
          refine at_keep [] rfl ?_
          refine at_region ?_
          refine sxk 1 tabOK rfl ?_
          refine aops_nil ?_
          refine at_ret ?_
          refine bk_r ?_
          refine tk_r ?_
          refine ll_r ?_
          refine bk_r ?_
          refine tk_r ?_
          obtain rfl := Option.some.inj hF
          refine ret_le rfl ?_
          exact (vle_refl _)
        · refine at_skip ?_
          refine bk_n ?_
          refine at_keep [0, 3] rfl ?_
          refine at_region ?_
          refine sxk 1 tabOK rfl ?_
          obtain ⟨hb, hF⟩ := chk_some hF
          refine s_add tabOK rfl rfl rfl hb rfl ?_
          refine sxk 1 tabOK rfl ?_
          refine aops_nil ?_
          exact arr_loop ⟨(i3 + 1), hF, (le_down (down_all (ee_cons rfl rfl rfl (ee_cons rfl rfl rfl ee_nil)) he_nil rfl rfl rfl rfl))⟩
      · refine at_exit ?_
        refine tk_x ?_
        refine ll_x ?_
        refine bk_hit ?_
        refine at_seq ?_
        refine at_region ?_
        refine sxk 1 tabOK rfl ?_
        refine aops_nil ?_
        refine at_ret ?_
        obtain rfl := Option.some.inj hF
        refine ret_le rfl ?_
        exact (vle_refl _)

theorem i_stringText_ok (s : List UInt8) (q : Bool) (hF : i_stringText s = some q) : FC Tryd.prog 59 [.str s] [] 3 (fun x _ => x = .bool q) := by
  refine FC.of_le ?_
  refine fc_body tabOK Tryd.func59 rfl Tryd.ntmps59 rfl rfl rfl ?_
  unfold i_stringText at hF
  refine at_seq ?_
  refine at_region ?_
  refine sxk 1 tabOK rfl ?_
  refine aops_nil ?_
  refine at_seq ?_
  refine at_seq ?_
  refine at_region ?_
  refine sxk 3 tabOK rfl ?_
  refine aops_nil ?_
  refine ct_if hF rfl (fun hc hF => ?_) (fun hc hF => ?_)
  · refine at_seq ?_
    refine at_region ?_
    refine sxk 1 tabOK rfl ?_
    refine aops_nil ?_
    refine at_ret ?_
    refine tk_r ?_
    obtain rfl := Option.some.inj hF
    refine ret_le rfl ?_
    exact (vle_refl _)
  · refine at_skip ?_
    refine at_seq ?_
    refine at_seq ?_
    refine at_region ?_
    refine sxk 1 tabOK rfl ?_
    refine aops_nil ?_
    refine at_block ?_
    refine cl_loop (σ := Int) (fun i2 => ⟨[(0, .str s), (3, .int .i64 i2)], [], 3, 29, []⟩) (i_stringText_L1 s) LF 0 hF (le_down (down_all (ee_cons rfl rfl rfl (ee_cons rfl rfl rfl ee_nil)) he_nil rfl rfl rfl rfl)) ?_
    rintro lk_ i2 hF
    refine at_eq (s' := ⟨[(0, .str s), (3, .int .i64 i2)], [], 3, 29, []⟩) rfl ?_
    replace hF : i_stringText_L1b s (itr (i_stringText_L1 s) lk_) i2 = some q := hF
    unfold i_stringText_L1b at hF
    generalize itr (i_stringText_L1 s) lk_ = go3 at hF ⊢
    refine at_seq ?_
    refine at_seq ?_
    refine at_region ?_
    refine sxk 4 tabOK rfl ?_
    refine aops_nil ?_
    refine ct_if hF rfl (fun hc hF => ?_) (fun hc hF => ?_)
    · refine at_skip ?_
      refine at_seq ?_
      refine at_block ?_
      refine at_seq ?_
      refine at_region ?_
      refine sxk 2 tabOK rfl ?_
      obtain ⟨x4, hn_x4, hF⟩ := bnd_some hF
      refine sv rfl (oc_byte hn_x4 tabOK rfl rfl rfl) rfl ?_
      refine sxk 2 tabOK rfl ?_
      refine ops_if (g := 17) hF rfl (fun hc hF => ?_) (fun hc hF => ?_)
      · refine sxk 11 tabOK rfl ?_
        refine aops_nil ?_
        refine at_true rfl ?_
        refine at_seq ?_
        refine at_keep [] rfl ?_
        refine at_region ?_
        refine sxk 1 tabOK rfl ?_
        refine aops_nil ?_
        refine at_ret ?_
        refine bk_r ?_
        refine tk_r ?_
        refine ll_r ?_
        refine bk_r ?_
        refine tk_r ?_
        obtain rfl := Option.some.inj hF
        refine ret_le rfl ?_
        exact (vle_refl _)
      · refine sxk 2 tabOK rfl ?_
        obtain ⟨x5, hn_x5, hF⟩ := bnd_some hF
        refine sv rfl (oc_byte hn_x5 tabOK rfl rfl rfl) rfl ?_
        refine sxk 3 tabOK rfl ?_
        refine ops_if (g := 23) hF rfl (fun hc hF => ?_) (fun hc hF => ?_)
        · refine sxk 5 tabOK rfl ?_
          refine aops_nil ?_
          refine at_true rfl ?_
          refine at_seq ?_
          refine at_keep [] rfl ?_
          refine at_region ?_
          refine sxk 1 tabOK rfl ?_
          refine aops_nil ?_
          refine at_ret ?_
          refine bk_r ?_
          refine tk_r ?_
          refine ll_r ?_
          refine bk_r ?_
          refine tk_r ?_
          obtain rfl := Option.some.inj hF
          refine ret_le rfl ?_
          exact (vle_refl _)
        · refine sxk 2 tabOK rfl ?_
          obtain ⟨x6, hn_x6, hF⟩ := bnd_some hF
          refine sv rfl (oc_byte hn_x6 tabOK rfl rfl rfl) rfl ?_
          refine sxk 2 tabOK rfl ?_
          refine aops_nil ?_
          refine ct_if hF rfl (fun hc hF => ?_) (fun hc hF => ?_)
          · refine at_seq ?_
            refine at_keep [] rfl ?_
            refine at_region ?_
            refine sxk 1 tabOK rfl ?_
            refine aops_nil ?_
            refine at_ret ?_
            refine bk_r ?_
            refine tk_r ?_
            refine ll_r ?_
            refine bk_r ?_
            refine tk_r ?_
            obtain rfl := Option.some.inj hF
            refine ret_le rfl ?_
            exact (vle_refl _)
          · refine at_skip ?_
            refine bk_n ?_
            refine at_keep [0, 3, 18, 19, 20, 21, 24, 25, 26, 27] rfl ?_
            refine at_region ?_
            refine sxk 1 tabOK rfl ?_
            obtain ⟨hb, hF⟩ := chk_some hF
            refine s_add tabOK rfl rfl rfl hb rfl ?_
            refine sxk 1 tabOK rfl ?_
            refine aops_nil ?_
            exact arr_loop ⟨(i2 + 1), hF, (le_down (down_all (ee_cons rfl rfl rfl (ee_cons rfl rfl rfl ee_nil)) he_nil rfl rfl rfl rfl))⟩
    · refine at_exit ?_
      refine tk_x ?_
      refine ll_x ?_
      refine bk_hit ?_
      refine at_seq ?_
      refine at_region ?_
      refine sxk 1 tabOK rfl ?_
      refine aops_nil ?_
      refine at_ret ?_
      obtain rfl := Option.some.inj hF
      refine ret_le rfl ?_
      exact (vle_refl _)

theorem i_rightNode_ok (kind : Int) (number : Int) (text : List UInt8) (items : Int) (q : Bool) (hF : i_rightNode kind number text items = some q) : FC Tryd.prog 71 [.int .i64 kind, .int .i64 number, .str text, .int .i64 items] [] 3 (fun x _ => x = .bool q) := by
  refine FC.of_le ?_
  refine fc_body tabOK Tryd.func71 rfl Tryd.ntmps71 rfl rfl rfl ?_
  unfold i_rightNode at hF
  refine at_seq ?_
  refine at_region ?_
  refine sxk 1 tabOK rfl ?_
  refine aops_nil ?_
  refine at_seq ?_
  refine at_seq ?_
  refine at_region ?_
  refine sxk 1 tabOK rfl ?_
  refine aops_nil ?_
  refine at_block ?_
  refine at_seq ?_
  refine at_region ?_
  refine sxk 2 tabOK rfl ?_
  refine aops_nil ?_
  refine ct_if hF rfl (fun hc hF => ?_) (fun hc hF => ?_)
  · refine at_seq ?_
    refine at_region ?_
    refine sxk 3 tabOK rfl ?_
    refine ops_if (g := 14) hF rfl (fun hc hF => ?_) (fun hc hF => ?_)
    · refine sxk 4 tabOK rfl ?_
      refine aops_nil ?_
      refine at_ret ?_
      refine bk_r ?_
      refine tk_r ?_
      obtain rfl := Option.some.inj hF
      refine ret_le rfl ?_
      exact (vle_refl _)
    · refine sxk 4 tabOK rfl ?_
      refine aops_nil ?_
      refine at_ret ?_
      refine bk_r ?_
      refine tk_r ?_
      obtain rfl := Option.some.inj hF
      refine ret_le rfl ?_
      exact (vle_refl _)
  · refine at_seq ?_
    refine at_region ?_
    refine sxk 2 tabOK rfl ?_
    refine aops_nil ?_
    refine ct_if hF rfl (fun hc hF => ?_) (fun hc hF => ?_)
    · refine at_seq ?_
      refine at_keep [1, 2, 3] rfl ?_
      refine at_region ?_
      refine sxk 3 tabOK rfl ?_
      refine ops_if (g := 22) hF rfl (fun hc hF => ?_) (fun hc hF => ?_)
      · refine sxk 4 tabOK rfl ?_
        refine ops_if (g := 26) hF rfl (fun hc hF => ?_) (fun hc hF => ?_)
        · refine sxk 1 tabOK rfl ?_
          obtain ⟨x5, hx5, hF⟩ := bnd_some hF
          refine call_eq (i_IsSymbol_ok text x5 hx5) rfl ((rlL_cons (rfl) rlL_nil)) rfl rfl ?_
          refine sxk 2 tabOK rfl ?_
          refine aops_nil ?_
          refine at_ret ?_
          refine bk_r ?_
          refine tk_r ?_
          obtain rfl := Option.some.inj hF
          refine ret_le rfl ?_
          exact (vle_refl _)
        · refine sxk 4 tabOK rfl ?_
          refine aops_nil ?_
          refine at_ret ?_
          refine bk_r ?_
          refine tk_r ?_
          obtain rfl := Option.some.inj hF
          refine ret_le rfl ?_
          exact (vle_refl _)
      · refine sxk 8 tabOK rfl ?_
        refine aops_nil ?_
        refine at_ret ?_
        refine bk_r ?_
        refine tk_r ?_
        obtain rfl := Option.some.inj hF
        refine ret_le rfl ?_
        exact (vle_refl _)
    · refine at_seq ?_
      refine at_region ?_
      refine sxk 2 tabOK rfl ?_
      refine aops_nil ?_
      refine ct_if hF rfl (fun hc hF => ?_) (fun hc hF => ?_)
      · refine at_seq ?_
        refine at_keep [1, 2, 3] rfl ?_
        refine at_region ?_
        refine sxk 3 tabOK rfl ?_
        refine ops_if (g := 34) hF rfl (fun hc hF => ?_) (fun hc hF => ?_)
        · refine sxk 4 tabOK rfl ?_
          refine ops_if (g := 38) hF rfl (fun hc hF => ?_) (fun hc hF => ?_)
          · refine sxk 4 tabOK rfl ?_
            refine ops_if (g := 42) hF rfl (fun hc hF => ?_) (fun hc hF => ?_)
            · refine sxk 4 tabOK rfl ?_
              refine aops_nil ?_
              refine at_ret ?_
              refine bk_r ?_
              refine tk_r ?_
              obtain rfl := Option.some.inj hF
              refine ret_le rfl ?_
              exact (vle_refl _)
            · refine sxk 4 tabOK rfl ?_
              refine aops_nil ?_
              refine at_ret ?_
              refine bk_r ?_
              refine tk_r ?_
              obtain rfl := Option.some.inj hF
              refine ret_le rfl ?_
              exact (vle_refl _)
          · refine sxk 8 tabOK rfl ?_
            refine aops_nil ?_
            refine at_ret ?_
            refine bk_r ?_
            refine tk_r ?_
            obtain rfl := Option.some.inj hF
            refine ret_le rfl ?_
            exact (vle_refl _)
        · refine sxk 12 tabOK rfl ?_
          refine aops_nil ?_
          refine at_ret ?_
          refine bk_r ?_
          refine tk_r ?_
          obtain rfl := Option.some.inj hF
          refine ret_le rfl ?_
          exact (vle_refl _)
      · refine at_seq ?_
        refine at_keep [1, 2, 3, 9] rfl ?_
        refine at_region ?_
        refine sxk 2 tabOK rfl ?_
        refine aops_nil ?_
        refine ct_if hF rfl (fun hc hF => ?_) (fun hc hF => ?_)
        · refine at_seq ?_
          refine at_region ?_
          refine sxk 3 tabOK rfl ?_
          refine ops_if (g := 50) hF rfl (fun hc hF => ?_) (fun hc hF => ?_)
          · refine sxk 8 tabOK rfl ?_
            refine ops_if (g := 58) hF rfl (fun hc hF => ?_) (fun hc hF => ?_)
            · refine sxk 4 tabOK rfl ?_
              refine aops_nil ?_
              refine at_ret ?_
              refine bk_r ?_
              refine tk_r ?_
              obtain rfl := Option.some.inj hF
              refine ret_le rfl ?_
              exact (vle_refl _)
            · refine sxk 4 tabOK rfl ?_
              refine aops_nil ?_
              refine at_ret ?_
              refine bk_r ?_
              refine tk_r ?_
              obtain rfl := Option.some.inj hF
              refine ret_le rfl ?_
              exact (vle_refl _)
          · refine sxk 4 tabOK rfl ?_
            refine ops_if (g := 54) hF rfl (fun hc hF => ?_) (fun hc hF => ?_)
            · refine sxk 4 tabOK rfl ?_
              refine ops_if (g := 58) hF rfl (fun hc hF => ?_) (fun hc hF => ?_)
              · refine sxk 4 tabOK rfl ?_
                refine aops_nil ?_
                refine at_ret ?_
                refine bk_r ?_
                refine tk_r ?_
                obtain rfl := Option.some.inj hF
                refine ret_le rfl ?_
                exact (vle_refl _)
              · refine sxk 4 tabOK rfl ?_
                refine aops_nil ?_
                refine at_ret ?_
                refine bk_r ?_
                refine tk_r ?_
                obtain rfl := Option.some.inj hF
                refine ret_le rfl ?_
                exact (vle_refl _)
            · refine sxk 8 tabOK rfl ?_
              refine aops_nil ?_
              refine at_ret ?_
              refine bk_r ?_
              refine tk_r ?_
              obtain rfl := Option.some.inj hF
              refine ret_le rfl ?_
              exact (vle_refl _)
        · refine at_seq ?_
          refine at_region ?_
          refine sxk 2 tabOK rfl ?_
          refine aops_nil ?_
          refine ct_if hF rfl (fun hc hF => ?_) (fun hc hF => ?_)
          · refine at_seq ?_
            refine at_region ?_
            refine sxk 3 tabOK rfl ?_
            refine ops_if (g := 66) hF rfl (fun hc hF => ?_) (fun hc hF => ?_)
            · refine sxk 4 tabOK rfl ?_
              refine ops_if (g := 70) hF rfl (fun hc hF => ?_) (fun hc hF => ?_)
              · refine sxk 1 tabOK rfl ?_
                obtain ⟨x5, hx5, hF⟩ := bnd_some hF
                refine call_eq (i_stringText_ok text x5 hx5) rfl ((rlL_cons (rfl) rlL_nil)) rfl rfl ?_
                refine sxk 2 tabOK rfl ?_
                refine aops_nil ?_
                refine at_ret ?_
                refine bk_r ?_
                refine tk_r ?_
                obtain rfl := Option.some.inj hF
                refine ret_le rfl ?_
                exact (vle_refl _)
              · refine sxk 4 tabOK rfl ?_
                refine aops_nil ?_
                refine at_ret ?_
                refine bk_r ?_
                refine tk_r ?_
                obtain rfl := Option.some.inj hF
                refine ret_le rfl ?_
                exact (vle_refl _)
            · refine sxk 8 tabOK rfl ?_
              refine aops_nil ?_
              refine at_ret ?_
              refine bk_r ?_
              refine tk_r ?_
              obtain rfl := Option.some.inj hF
              refine ret_le rfl ?_
              exact (vle_refl _)
          · refine at_skip ?_
            refine bk_n ?_
            refine at_seq ?_
            refine at_keep [] rfl ?_
            refine at_region ?_
            refine sxk 1 tabOK rfl ?_
            refine aops_nil ?_
            refine at_ret ?_
            obtain rfl := Option.some.inj hF
            refine ret_le rfl ?_
            exact (vle_refl _)

theorem i_measure_bok (i_measure : PDat → Int → Int → Option (Bool × Int)) (h_i_measure : ∀ (d : PDat) (deep : Int) (nodes : Int) (q : Bool × Int), i_measure d deep nodes = some q → FC Tryd.prog 64 [.agg (cDat.row 0 d), .int .i64 deep, .ptr 0 1 0 0] [(0, ⟨1, [cInt.row 1 nodes]⟩)] 3 (fun x h2 => x = .bool q.1 ∧ hget h2 0 = some ⟨1, [cInt.row 1 q.2]⟩)) (d : PDat) (deep : Int) (nodes : Int) (q : Bool × Int) (hF : i_measure_b i_measure d deep nodes = some q) : FC Tryd.prog 64 [.agg (cDat.row 0 d), .int .i64 deep, .ptr 0 1 0 0] [(0, ⟨1, [cInt.row 1 nodes]⟩)] 3 (fun x h2 => x = .bool q.1 ∧ hget h2 0 = some ⟨1, [cInt.row 1 q.2]⟩) := by
  refine FC.of_le_lent ?_
  refine fc_body tabOK Tryd.func64 rfl Tryd.ntmps64 rfl rfl rfl ?_
  unfold i_measure_b at hF
  refine at_seq ?_
  refine at_region ?_
  refine sxk 2 tabOK rfl ?_
  refine aops_nil ?_
  refine at_seq ?_
  refine at_region ?_
  refine sxk 3 tabOK rfl ?_
  obtain ⟨hb, hF⟩ := chk_some hF
  refine s_add tabOK rfl rfl rfl hb rfl ?_
  refine sxk 2 tabOK rfl ?_
  refine aops_nil ?_
  refine at_seq ?_
  refine at_seq ?_
  refine at_keep [1, 2, 3] rfl ?_
  refine at_region ?_
  refine sxk 3 tabOK rfl ?_
  refine ops_if (g := 16) hF rfl (fun hc hF => ?_) (fun hc hF => ?_)
  · refine sxk 18 tabOK rfl ?_
    refine aops_nil ?_
    refine at_true rfl ?_
    refine at_seq ?_
    refine at_keep [] rfl ?_
    refine at_region ?_
    refine sxk 1 tabOK rfl ?_
    refine aops_nil ?_
    refine at_ret ?_
    refine tk_r ?_
    obtain rfl := Option.some.inj hF
    exact ret_lent rfl ((vle_refl _)) rfl
  · refine sxk 6 tabOK rfl ?_
    refine ops_if (g := 22) hF rfl (fun hc hF => ?_) (fun hc hF => ?_)
    · refine sxk 12 tabOK rfl ?_
      refine aops_nil ?_
      refine at_true rfl ?_
      refine at_seq ?_
      refine at_keep [] rfl ?_
      refine at_region ?_
      refine sxk 1 tabOK rfl ?_
      refine aops_nil ?_
      refine at_ret ?_
      refine tk_r ?_
      obtain rfl := Option.some.inj hF
      exact ret_lent rfl ((vle_refl _)) rfl
    · refine sxk 8 tabOK rfl ?_
      refine sv rfl (oc_len cDat tabOK rfl rfl rfl) rfl ?_
      obtain ⟨x5, hx5, hF⟩ := bnd_some hF
      refine call_eq (i_rightNode_ok d.kind d.number d.text (d.items.length : Int) x5 hx5) rfl ((rlL_cons (rfl) (rlL_cons (rfl) (rlL_cons (rfl) (rlL_cons (rfl) rlL_nil))))) rfl rfl ?_
      refine sxk 2 tabOK rfl ?_
      refine aops_nil ?_
      refine ct_bn hF rfl (fun hc hF => ?_) (fun hc hF => ?_)
      · refine at_seq ?_
        refine at_keep [] rfl ?_
        refine at_region ?_
        refine sxk 1 tabOK rfl ?_
        refine aops_nil ?_
        refine at_ret ?_
        refine tk_r ?_
        obtain rfl := Option.some.inj hF
        exact ret_lent rfl ((vle_refl _)) rfl
      · refine at_skip ?_
        refine at_seq ?_
        refine at_seq ?_
        refine at_keep [1, 2, 3] rfl ?_
        refine at_region ?_
        refine sxk 2 tabOK rfl ?_
        refine sv rfl (oc_len cDat tabOK rfl rfl rfl) rfl ?_
        refine sxk 1 tabOK rfl ?_
        refine aops_nil ?_
        refine at_block ?_
        refine cl_loop (σ := Int × Int) (fun v => match v with | (x6, nodes7) => ⟨[(1, .int .i64 deep), (2, .ptr 0 1 0 0), (36, .psl 0 4 (d.items.map (cDat.enc 0))), (37, .int .i64 (d.items.length : Int)), (38, .int .i64 x6)], [(0, ⟨1, [[.int .i64 nodes7]]⟩)], 4, 49, []⟩) (i_measure_L1 i_measure d deep) LF (0, (nodes + 1)) hF (le_down (down_all (ee_cons rfl rfl rfl (ee_cons rfl rfl (Nat.le_of_ble_eq_true rfl) (ee_cons rfl rfl (cDat.ok_psl _ rfl) (ee_cons rfl rfl rfl (ee_cons rfl rfl rfl ee_nil))))) (he_cons rfl rfl rfl (row_one ⟨rfl, trivial⟩) he_nil) rfl rfl rfl rfl)) ?_
        rintro lk_ ⟨x6, nodes7⟩ hF
        refine at_eq (s' := ⟨[(1, .int .i64 deep), (2, .ptr 0 1 0 0), (36, .psl 0 4 (d.items.map (cDat.enc 0))), (37, .int .i64 (d.items.length : Int)), (38, .int .i64 x6)], [(0, ⟨1, [[.int .i64 nodes7]]⟩)], 4, 49, []⟩) rfl ?_
        replace hF : i_measure_L1b i_measure d deep (itr (i_measure_L1 i_measure d deep) lk_) x6 nodes7 = some q := hF
        unfold i_measure_L1b at hF
        generalize itr (i_measure_L1 i_measure d deep) lk_ = go8 at hF ⊢
        refine at_seq ?_
        refine at_region ?_
        refine sxk 1 tabOK rfl ?_
        refine aops_nil ?_
        refine at_seq ?_
        refine ct_if hF rfl (fun hc hF => ?_) (fun hc hF => ?_)
        · refine at_skip ?_
          refine at_seq ?_
          refine at_block ?_
          refine at_seq ?_
          refine at_region ?_
          obtain ⟨x9, hn_x9, hF⟩ := bnd_some hF
          refine sv rfl (oc_addr cDat hn_x9 tabOK rfl rfl rfl rfl) rfl ?_
          refine sxk 3 tabOK rfl ?_
          refine aops_nil ?_
          refine at_seq ?_
          refine at_region ?_
          refine sxk 2 tabOK rfl ?_
          obtain ⟨hb, hF⟩ := chk_some hF
          refine s_add tabOK rfl rfl rfl hb rfl ?_
          refine sxk 1 tabOK rfl ?_
          obtain ⟨x10, hx10, hF⟩ := bnd_some hF
          refine call_lend1 0 (h_i_measure x9 (deep + 1) nodes7 x10 hx10) rfl (rnL_cons (rn_of_rl _ (cDat.rl_agg (l := 0) (l' := 0) _ x9 rfl)) (rnL_cons rfl (rnL_cons rfl rnL_nil))) rfl rfl rfl rfl rfl ?_
          refine sxk 1 tabOK rfl ?_
          refine aops_nil ?_
          refine ct_bn hF rfl (fun hc hF => ?_) (fun hc hF => ?_)
          · refine at_seq ?_
            refine at_keep [] rfl ?_
            refine at_region ?_
            refine sxk 1 tabOK rfl ?_
            refine aops_nil ?_
            refine at_ret ?_
            refine bk_r ?_
            refine tk_r ?_
            refine ll_r ?_
            refine bk_r ?_
            refine tk_r ?_
            obtain rfl := Option.some.inj hF
            exact ret_lent rfl ((vle_refl _)) rfl
          · refine at_skip ?_
            refine bk_n ?_
            refine at_keep [1, 2, 36, 37, 38] rfl ?_
            refine at_region ?_
            obtain ⟨hb, hF⟩ := chk_some hF
            refine s_add tabOK rfl rfl rfl hb rfl ?_
            refine sxk 1 tabOK rfl ?_
            refine aops_nil ?_
            exact arr_loop ⟨((x6 + 1), x10.2), hF, (le_down (down_all (ee_cons rfl rfl rfl (ee_cons rfl rfl (Nat.le_of_ble_eq_true rfl) (ee_cons rfl rfl (cDat.ok_psl _ rfl) (ee_cons rfl rfl rfl (ee_cons rfl rfl rfl ee_nil))))) (he_cons rfl rfl rfl (row_one ⟨rfl, trivial⟩) he_nil) rfl rfl rfl rfl))⟩
        · refine at_exit ?_
          refine tk_x ?_
          refine ll_x ?_
          refine bk_hit ?_
          refine at_seq ?_
          refine at_region ?_
          refine sxk 1 tabOK rfl ?_
          refine aops_nil ?_
          refine at_ret ?_
          obtain rfl := Option.some.inj hF
          exact ret_lent rfl ((vle_refl _)) rfl

theorem i_measure_all (n : Nat) : (∀ (d : PDat) (deep : Int) (nodes : Int) (q : Bool × Int), i_measure n d deep nodes = some q → FC Tryd.prog 64 [.agg (cDat.row 0 d), .int .i64 deep, .ptr 0 1 0 0] [(0, ⟨1, [cInt.row 1 nodes]⟩)] 3 (fun x h2 => x = .bool q.1 ∧ hget h2 0 = some ⟨1, [cInt.row 1 q.2]⟩)) := by
  induction n with
  | zero => exact fun _ _ _ q h => by cases h
  | succ n ih => exact fun d deep nodes q h => i_measure_bok (i_measure n) ih d deep nodes q h

theorem i_measure_ok (n : Nat) (d : PDat) (deep : Int) (nodes : Int) (q : Bool × Int) (hF : i_measure n d deep nodes = some q) : FC Tryd.prog 64 [.agg (cDat.row 0 d), .int .i64 deep, .ptr 0 1 0 0] [(0, ⟨1, [cInt.row 1 nodes]⟩)] 3 (fun x h2 => x = .bool q.1 ∧ hget h2 0 = some ⟨1, [cInt.row 1 q.2]⟩) := (i_measure_all n) d deep nodes q hF

theorem i_IsDatum_ok (d : PDat) (q : Bool) (hF : i_IsDatum d = some q) : FC Tryd.prog 50 [.agg (cDat.row 0 d)] [] 3 (fun x _ => x = .bool q) := by
  refine FC.of_le ?_
  refine fc_body tabOK Tryd.func50 rfl Tryd.ntmps50 rfl rfl rfl ?_
  unfold i_IsDatum at hF
  refine at_seq ?_
  refine at_region ?_
  refine sxk 2 tabOK rfl ?_
  refine aops_nil ?_
  refine at_seq ?_
  refine at_region ?_
  refine sxk 2 tabOK rfl ?_
  refine aops_nil ?_
  refine at_seq ?_
  refine at_region ?_
  refine sxk 1 tabOK rfl ?_
  obtain ⟨x2, hx2, hF⟩ := bnd_some hF
  refine call_lend1 4 (i_measure_ok RF d 1 0 x2 hx2) rfl (rnL_cons (rn_of_rl _ (cDat.rl_agg (l := 0) (l' := 0) _ d rfl)) (rnL_cons rfl (rnL_cons rfl rnL_nil))) rfl rfl rfl rfl rfl ?_
  refine sxk 1 tabOK rfl ?_
  refine aops_nil ?_
  refine at_ret ?_
  obtain rfl := Option.some.inj hF
  refine ret_le rfl ?_
  exact (vle_refl _)

theorem i_writeDatum_bok (i_writeDatum : List UInt8 → PDat → Option (List UInt8)) (h_i_writeDatum : ∀ (out : List UInt8) (d : PDat) (q : List UInt8), i_writeDatum out d = some q → FC Tryd.prog 52 [.hsl 0 0 out.length, .agg (cDat.row 0 d)] [(0, ⟨1, out.map (cByte.enc 0)⟩)] 3 (fun x h2 => x = .hsl 0 0 q.length ∧ hget h2 0 = some ⟨1, q.map (cByte.enc 0)⟩)) (out : List UInt8) (d : PDat) (q : List UInt8) (hF : i_writeDatum_b i_writeDatum out d = some q) : FC Tryd.prog 52 [.hsl 0 0 out.length, .agg (cDat.row 0 d)] [(0, ⟨1, out.map (cByte.enc 0)⟩)] 3 (fun x h2 => x = .hsl 0 0 q.length ∧ hget h2 0 = some ⟨1, q.map (cByte.enc 0)⟩) := by
  refine FC.of_le_lent ?_
  refine fc_body tabOK Tryd.func52 rfl Tryd.ntmps52 rfl rfl rfl ?_
  unfold i_writeDatum_b at hF
  refine at_seq ?_
  refine at_region ?_
  refine sxk 2 tabOK rfl ?_
  refine aops_nil ?_
  refine at_seq ?_
  refine at_seq ?_
  refine at_region ?_
  refine sxk 2 tabOK rfl ?_
  refine aops_nil ?_
  refine at_block ?_
  refine at_seq ?_
  refine at_region ?_
  refine sxk 2 tabOK rfl ?_
  refine aops_nil ?_
  refine ct_if hF rfl (fun hc hF => ?_) (fun hc hF => ?_)
  · refine at_seq ?_
    refine at_region ?_
    refine sxk 3 tabOK rfl ?_
    obtain ⟨hb, hF⟩ := chk_some hF
    refine sc_append cByte (l := 0) (xs := out) (ys := d.text) hb rfl tabOK rfl rfl rfl rfl rfl rfl rfl (srcC_str rfl) rfl ?_
    refine sxk 1 tabOK rfl ?_
    refine aops_nil ?_
    refine at_ret ?_
    refine bk_r ?_
    refine tk_r ?_
    obtain rfl := Option.some.inj hF
    exact ret_lent rfl ((vle_refl _)) rfl
  · refine at_seq ?_
    refine at_region ?_
    refine sxk 2 tabOK rfl ?_
    refine aops_nil ?_
    refine ct_if hF rfl (fun hc hF => ?_) (fun hc hF => ?_)
    · refine at_seq ?_
      refine at_keep [0, 3] rfl ?_
      refine at_region ?_
      refine sxk 3 tabOK rfl ?_
      obtain ⟨x4, hx4, hF⟩ := bnd_some hF
      refine call_eq (i_FormatNumber_ok d.number x4 hx4) rfl ((rlL_cons (rfl) rlL_nil)) rfl rfl ?_
      obtain ⟨hb, hF⟩ := chk_some hF
      refine sc_append cByte (l := 0) (xs := out) (ys := x4) hb rfl tabOK rfl rfl rfl rfl rfl rfl rfl (srcC_str rfl) rfl ?_
      refine sxk 1 tabOK rfl ?_
      refine aops_nil ?_
      refine at_ret ?_
      refine bk_r ?_
      refine tk_r ?_
      obtain rfl := Option.some.inj hF
      exact ret_lent rfl ((vle_refl _)) rfl
    · refine at_seq ?_
      refine at_keep [0, 3, 8] rfl ?_
      refine at_region ?_
      refine sxk 2 tabOK rfl ?_
      refine aops_nil ?_
      refine ct_if hF rfl (fun hc hF => ?_) (fun hc hF => ?_)
      · refine at_seq ?_
        refine at_seq ?_
        refine at_region ?_
        refine sxk 3 tabOK rfl ?_
        refine aops_nil ?_
        refine ct_if hF rfl (fun hc hF => ?_) (fun hc hF => ?_)
        · refine at_seq ?_
          refine at_keep [0] rfl ?_
          refine at_region ?_
          refine sxk 1 tabOK rfl ?_
          obtain ⟨hb, hF⟩ := chk_some hF
          refine sc_append cByte (l := 0) (xs := out) (ys := ([35, 116] : List UInt8)) hb rfl tabOK rfl rfl rfl rfl rfl rfl rfl (srcC_str rfl) rfl ?_
          refine sxk 1 tabOK rfl ?_
          refine aops_nil ?_
          refine at_ret ?_
          refine tk_r ?_
          refine bk_r ?_
          refine tk_r ?_
          obtain rfl := Option.some.inj hF
          exact ret_lent rfl ((vle_refl _)) rfl
        · refine at_skip ?_
          refine at_seq ?_
          refine at_keep [0] rfl ?_
          refine at_region ?_
          refine sxk 1 tabOK rfl ?_
          obtain ⟨hb, hF⟩ := chk_some hF
          refine sc_append cByte (l := 0) (xs := out) (ys := ([35, 102] : List UInt8)) hb rfl tabOK rfl rfl rfl rfl rfl rfl rfl (srcC_str rfl) rfl ?_
          refine sxk 1 tabOK rfl ?_
          refine aops_nil ?_
          refine at_ret ?_
          refine bk_r ?_
          refine tk_r ?_
          obtain rfl := Option.some.inj hF
          exact ret_lent rfl ((vle_refl _)) rfl
      · refine at_seq ?_
        refine at_region ?_
        refine sxk 2 tabOK rfl ?_
        refine aops_nil ?_
        refine ct_if hF rfl (fun hc hF => ?_) (fun hc hF => ?_)
        · refine at_seq ?_
          refine at_region ?_
          refine sxk 1 tabOK rfl ?_
          refine sc_slit cByte (l := 0) ([34] : List UInt8) tabOK rfl rfl rfl rfl rfl rfl rfl ?_
          obtain ⟨hb, hF⟩ := chk_some hF
          refine sc_append cByte (l := 0) (xs := out) (ys := ([34] : List UInt8)) hb rfl tabOK rfl rfl rfl rfl rfl rfl rfl (srcC_hsl cByte rfl rfl rfl) rfl ?_
          refine sxk 1 tabOK rfl ?_
          refine aops_nil ?_
          refine at_seq ?_
          refine at_keep [0, 3] rfl ?_
          refine at_region ?_
          refine sxk 3 tabOK rfl ?_
          obtain ⟨hb, hF⟩ := chk_some hF
          refine sc_append cByte (l := 0) (xs := (out ++ ([34] : List UInt8))) (ys := d.text) hb rfl tabOK rfl rfl rfl rfl rfl rfl rfl (srcC_str rfl) rfl ?_
          refine sxk 1 tabOK rfl ?_
          refine aops_nil ?_
          refine at_seq ?_
          refine at_region ?_
          refine sxk 1 tabOK rfl ?_
          refine sc_slit cByte (l := 0) ([34] : List UInt8) tabOK rfl rfl rfl rfl rfl rfl rfl ?_
          obtain ⟨hb, hF⟩ := chk_some hF
          refine sc_append cByte (l := 0) (xs := ((out ++ ([34] : List UInt8)) ++ d.text)) (ys := ([34] : List UInt8)) hb rfl tabOK rfl rfl rfl rfl rfl rfl rfl (srcC_hsl cByte rfl rfl rfl) rfl ?_
          refine sxk 1 tabOK rfl ?_
          refine aops_nil ?_
          refine at_ret ?_
          refine bk_r ?_
          refine tk_r ?_
          obtain rfl := Option.some.inj hF
          exact ret_lent rfl ((vle_refl _)) rfl
        · refine at_skip ?_
          refine bk_n ?_
          refine at_seq ?_
          refine at_region ?_
          refine sxk 1 tabOK rfl ?_
          refine sc_slit cByte (l := 0) ([40] : List UInt8) tabOK rfl rfl rfl rfl rfl rfl rfl ?_
          obtain ⟨hb, hF⟩ := chk_some hF
          refine sc_append cByte (l := 0) (xs := out) (ys := ([40] : List UInt8)) hb rfl tabOK rfl rfl rfl rfl rfl rfl rfl (srcC_hsl cByte rfl rfl rfl) rfl ?_
          refine sxk 1 tabOK rfl ?_
          refine aops_nil ?_
          refine at_seq ?_
          refine at_seq ?_
          refine at_keep [0, 3] rfl ?_
          refine at_region ?_
          refine sxk 2 tabOK rfl ?_
          refine sv rfl (oc_len cDat tabOK rfl rfl rfl) rfl ?_
          refine sxk 1 tabOK rfl ?_
          refine aops_nil ?_
          refine at_block ?_
          refine cl_loop (σ := Int × List UInt8) (fun v => match v with | (x4, out5) => ⟨[(0, .hsl 0 0 out5.length), (47, .psl 0 4 (d.items.map (cDat.enc 0))), (48, .int .i64 (d.items.length : Int)), (49, .int .i64 x4)], [(0, ⟨1, out5.map (cByte.enc 0)⟩)], 5, 66, []⟩) (i_writeDatum_L1 i_writeDatum d) LF (0, (out ++ ([40] : List UInt8))) hF (le_down (down_all (ee_cons rfl rfl (Nat.le_of_ble_eq_true rfl) (ee_cons rfl rfl (cDat.ok_psl _ rfl) (ee_cons rfl rfl rfl (ee_cons rfl rfl rfl ee_nil)))) (he_cons rfl rfl rfl (cByte.rows_ok _ rfl) he_nil) rfl rfl rfl rfl)) ?_
          rintro lk_ ⟨x4, out5⟩ hF
          refine at_eq (s' := ⟨[(0, .hsl 0 0 out5.length), (47, .psl 0 4 (d.items.map (cDat.enc 0))), (48, .int .i64 (d.items.length : Int)), (49, .int .i64 x4)], [(0, ⟨1, out5.map (cByte.enc 0)⟩)], 5, 66, []⟩) rfl ?_
          replace hF : i_writeDatum_L1b i_writeDatum d (itr (i_writeDatum_L1 i_writeDatum d) lk_) x4 out5 = some q := hF
          unfold i_writeDatum_L1b at hF
          generalize itr (i_writeDatum_L1 i_writeDatum d) lk_ = go6 at hF ⊢
          refine at_seq ?_
          refine at_region ?_
          refine sxk 1 tabOK rfl ?_
          refine aops_nil ?_
          refine at_seq ?_
          refine ct_if hF rfl (fun hc hF => ?_) (fun hc hF => ?_)
          · refine at_skip ?_
            refine at_seq ?_
            refine at_block ?_
            refine at_seq ?_
            refine at_region ?_
            refine sxk 1 tabOK rfl ?_
            obtain ⟨x7, hn_x7, hF⟩ := bnd_some hF
            refine sv rfl (oc_addr cDat hn_x7 tabOK rfl rfl rfl rfl) rfl ?_
            refine sxk 4 tabOK rfl ?_
            refine aops_nil ?_
            refine at_seq ?_
            refine at_seq ?_
            refine at_region ?_
            refine sxk 2 tabOK rfl ?_
            refine aops_nil ?_
            refine cl_midn (σ := List UInt8) (fun out8 => ⟨[(0, .hsl 0 0 out8.length), (6, .ptr 5 1 0 0), (47, .psl 0 4 (d.items.map (cDat.enc 0))), (48, .int .i64 (d.items.length : Int)), (49, .int .i64 x4)], [(0, ⟨1, out8.map (cByte.enc 0)⟩), (5, ⟨4, [cDat.row 0 x7]⟩)], 6, 66, []⟩) (fun out8 => i_writeDatum_J2 i_writeDatum x4 go6 x7 out8 = some q) ?_ ?_
            · refine ct_if hF rfl (fun hc hF => ?_) (fun hc hF => ?_)
              · refine at_keep [0, 6, 47, 48, 49] rfl ?_
                refine at_region ?_
                refine sxk 1 tabOK rfl ?_
                refine sc_slit cByte (l := 0) ([32] : List UInt8) tabOK rfl rfl rfl rfl rfl rfl rfl ?_
                obtain ⟨hb, hF⟩ := chk_some hF
                refine sc_append cByte (l := 0) (xs := out5) (ys := ([32] : List UInt8)) hb rfl tabOK rfl rfl rfl rfl rfl rfl rfl (srcC_hsl cByte rfl rfl rfl) rfl ?_
                refine sxk 1 tabOK rfl ?_
                refine aops_nil ?_
                exact arr_cut ⟨(out5 ++ ([32] : List UInt8)), hF, (le_down (down_all (ee_cons rfl rfl (Nat.le_of_ble_eq_true rfl) (ee_cons rfl rfl (Nat.le_of_ble_eq_true rfl) (ee_cons rfl rfl (cDat.ok_psl _ rfl) (ee_cons rfl rfl rfl (ee_cons rfl rfl rfl ee_nil))))) (he_cons rfl rfl rfl (cByte.rows_ok _ rfl) (he_cons rfl rfl rfl (row_one (cDat.row_ok _ rfl)) he_nil)) rfl rfl rfl rfl))⟩
              · refine at_skip ?_
                exact arr_cut ⟨out5, hF, (le_down (down_all (ee_cons rfl rfl (Nat.le_of_ble_eq_true rfl) (ee_cons rfl rfl (Nat.le_of_ble_eq_true rfl) (ee_cons rfl rfl (cDat.ok_psl _ rfl) (ee_cons rfl rfl rfl (ee_cons rfl rfl rfl ee_nil))))) (he_cons rfl rfl rfl (cByte.rows_ok _ rfl) (he_cons rfl rfl rfl (row_one (cDat.row_ok _ rfl)) he_nil)) rfl rfl rfl rfl))⟩
            · rintro out8 hF
              refine at_eq (s' := ⟨[(0, .hsl 0 0 out8.length), (6, .ptr 5 1 0 0), (47, .psl 0 4 (d.items.map (cDat.enc 0))), (48, .int .i64 (d.items.length : Int)), (49, .int .i64 x4)], [(0, ⟨1, out8.map (cByte.enc 0)⟩), (5, ⟨4, [cDat.row 0 x7]⟩)], 6, 66, []⟩) rfl ?_
              replace hF : i_writeDatum_J2 i_writeDatum x4 go6 x7 out8 = some q := hF
              unfold i_writeDatum_J2 at hF
              refine at_region ?_
              refine sxk 2 tabOK rfl ?_
              obtain ⟨x9, hx9, hF⟩ := bnd_some hF
              refine call_io 0 (h_i_writeDatum out8 x7 x9 hx9) rfl (rnL_cons rfl (rnL_cons (rn_of_rl _ (cDat.rl_agg (l := 0) (l' := 0) _ x7 rfl)) rnL_nil)) rfl (Cd.rnR cByte _ out8 rfl) rfl (Cd.rnR cByte _ x9 rfl) rfl ?_
              refine sxk 1 tabOK rfl ?_
              refine aops_nil ?_
              refine bk_n ?_
              refine at_region ?_
              obtain ⟨hb, hF⟩ := chk_some hF
              refine s_add tabOK rfl rfl rfl hb rfl ?_
              refine sxk 1 tabOK rfl ?_
              refine aops_nil ?_
              exact arr_loop ⟨((x4 + 1), x9), hF, (le_down (down_all (ee_cons rfl rfl (Nat.le_of_ble_eq_true rfl) (ee_cons rfl rfl (cDat.ok_psl _ rfl) (ee_cons rfl rfl rfl (ee_cons rfl rfl rfl ee_nil)))) (he_cons rfl rfl rfl (cByte.rows_ok _ rfl) he_nil) rfl rfl rfl rfl))⟩
          · refine at_exit ?_
            refine tk_x ?_
            refine ll_x ?_
            refine bk_hit ?_
            refine at_seq ?_
            refine at_region ?_
            refine sxk 1 tabOK rfl ?_
            refine sc_slit cByte (l := 0) ([41] : List UInt8) tabOK rfl rfl rfl rfl rfl rfl rfl ?_
            obtain ⟨hb, hF⟩ := chk_some hF
            refine sc_append cByte (l := 0) (xs := out5) (ys := ([41] : List UInt8)) hb rfl tabOK rfl rfl rfl rfl rfl rfl rfl (srcC_hsl cByte rfl rfl rfl) rfl ?_
            refine sxk 1 tabOK rfl ?_
            refine aops_nil ?_
            refine at_ret ?_
            obtain rfl := Option.some.inj hF
            exact ret_lent rfl ((vle_refl _)) rfl

theorem i_writeDatum_all (n : Nat) : (∀ (out : List UInt8) (d : PDat) (q : List UInt8), i_writeDatum n out d = some q → FC Tryd.prog 52 [.hsl 0 0 out.length, .agg (cDat.row 0 d)] [(0, ⟨1, out.map (cByte.enc 0)⟩)] 3 (fun x h2 => x = .hsl 0 0 q.length ∧ hget h2 0 = some ⟨1, q.map (cByte.enc 0)⟩)) := by
  induction n with
  | zero => exact fun _ _ q h => by cases h
  | succ n ih => exact fun out d q h => i_writeDatum_bok (i_writeDatum n) ih out d q h

theorem i_writeDatum_ok (n : Nat) (out : List UInt8) (d : PDat) (q : List UInt8) (hF : i_writeDatum n out d = some q) : FC Tryd.prog 52 [.hsl 0 0 out.length, .agg (cDat.row 0 d)] [(0, ⟨1, out.map (cByte.enc 0)⟩)] 3 (fun x h2 => x = .hsl 0 0 q.length ∧ hget h2 0 = some ⟨1, q.map (cByte.enc 0)⟩) := (i_writeDatum_all n) out d q hF

theorem i_FormatDatum_ok (d : PDat) (q : List UInt8) (hF : i_FormatDatum d = some q) : FC Tryd.prog 35 [.agg (cDat.row 0 d)] [] 3 (fun x _ => x = .str q) := by
  refine FC.of_le ?_
  refine fc_body tabOK Tryd.func35 rfl Tryd.ntmps35 rfl rfl rfl ?_
  unfold i_FormatDatum at hF
  refine at_seq ?_
  refine at_region ?_
  refine sxk 2 tabOK rfl ?_
  refine aops_nil ?_
  refine at_seq ?_
  refine at_seq ?_
  refine at_region ?_
  refine sxk 1 tabOK rfl ?_
  obtain ⟨x2, hx2, hF⟩ := bnd_some hF
  refine call_eq (i_IsDatum_ok d x2 hx2) rfl ((rlL_cons (cDat.rl_agg (l := 0) (l' := 0) _ d rfl) rlL_nil)) rfl rfl ?_
  refine sxk 1 tabOK rfl ?_
  refine aops_nil ?_
  refine ct_bn hF rfl (fun hc hF => ?_) (fun hc hF => ?_)
  · refine at_seq ?_
    refine at_region ?_
    refine sxk 1 tabOK rfl ?_
    refine aops_nil ?_
    refine at_ret ?_
    refine tk_r ?_
    obtain rfl := Option.some.inj hF
    refine ret_le rfl ?_
    exact (vle_refl _)
  · refine at_skip ?_
    refine at_seq ?_
    refine at_region ?_
    refine sxk 1 tabOK rfl ?_
    obtain ⟨x3, hx3, hF⟩ := bnd_some hF
    refine call_ion 4 (pre := []) (suf := [.agg (cDat.row 0 d)]) (i_writeDatum_ok RF [] d x3 hx3) rfl rfl rfl (rnL_cons rfl (rnL_cons (rn_of_rl _ (cDat.rl_agg (l := 0) (l' := 0) _ d rfl)) rnL_nil)) rfl (Cd.rnR cByte _ x3 rfl) rfl ?_
    refine sv rfl (ov_bytesH tabOK rfl rfl rfl rfl) rfl ?_
    refine sxk 1 tabOK rfl ?_
    refine aops_nil ?_
    refine at_ret ?_
    obtain rfl := Option.some.inj hF
    refine ret_le rfl ?_
    exact (vle_refl _)

theorem i_OpName_ok (op : Int) (q : List UInt8) (hF : i_OpName op = some q) : FC Tryd.prog 7 [.int .i64 op] [] 3 (fun x _ => x = .str q) := by
  refine FC.of_le ?_
  refine fc_body tabOK Tryd.func7 rfl Tryd.ntmps7 rfl rfl rfl ?_
  unfold i_OpName at hF
  refine at_seq ?_
  refine at_region ?_
  refine sxk 1 tabOK rfl ?_
  refine aops_nil ?_
  refine at_seq ?_
  refine at_seq ?_
  refine at_region ?_
  refine sxk 3 tabOK rfl ?_
  refine ops_if (g := 5) hF rfl (fun hc hF => ?_) (fun hc hF => ?_)
  · refine sxk 3 tabOK rfl ?_
    refine aops_nil ?_
    refine at_true rfl ?_
    refine at_seq ?_
    refine at_keep [] rfl ?_
    refine at_region ?_
    refine sxk 1 tabOK rfl ?_
    refine aops_nil ?_
    refine at_ret ?_
    refine tk_r ?_
    obtain rfl := Option.some.inj hF
    refine ret_le rfl ?_
    exact (vle_refl _)
  · refine sxk 3 tabOK rfl ?_
    refine aops_nil ?_
    refine ct_if hF rfl (fun hc hF => ?_) (fun hc hF => ?_)
    · refine at_seq ?_
      refine at_keep [] rfl ?_
      refine at_region ?_
      refine sxk 1 tabOK rfl ?_
      refine aops_nil ?_
      refine at_ret ?_
      refine tk_r ?_
      obtain rfl := Option.some.inj hF
      refine ret_le rfl ?_
      exact (vle_refl _)
    · refine at_skip ?_
      refine at_seq ?_
      refine at_keep [0] rfl ?_
      refine at_region ?_
      refine sxk 1 tabOK rfl ?_
      obtain ⟨hb, hF⟩ := chk_some hF
      refine s_sub tabOK rfl rfl rfl hb rfl ?_
      obtain ⟨x2, hn_x2, hF⟩ := bnd_some hF
      refine sv rfl (ov_gstr hn_x2 Tryd.underlying53 rfl (tabOK.size (t := 9) rfl) tab_g0 rfl rfl) rfl ?_
      refine sxk 2 tabOK rfl ?_
      refine aops_nil ?_
      refine at_ret ?_
      obtain rfl := Option.some.inj hF
      refine ret_le rfl ?_
      exact (vle_refl _)

theorem i_EqualData_bok (i_EqualData : PDat → PDat → Option Bool) (h_i_EqualData : ∀ (a : PDat) (b : PDat) (q : Bool), i_EqualData a b = some q → FC Tryd.prog 51 [.agg (cDat.row 0 a), .agg (cDat.row 0 b)] [] 3 (fun x _ => x = .bool q)) (a : PDat) (b : PDat) (q : Bool) (hF : i_EqualData_b i_EqualData a b = some q) : FC Tryd.prog 51 [.agg (cDat.row 0 a), .agg (cDat.row 0 b)] [] 3 (fun x _ => x = .bool q) := by
  refine FC.of_le ?_
  refine fc_body tabOK Tryd.func51 rfl Tryd.ntmps51 rfl rfl rfl ?_
  unfold i_EqualData_b at hF
  refine at_seq ?_
  refine at_region ?_
  refine sxk 3 tabOK rfl ?_
  refine aops_nil ?_
  refine at_seq ?_
  refine at_seq ?_
  refine at_region ?_
  refine sxk 6 tabOK rfl ?_
  refine ops_ifn (g := 11) hF rfl (fun hc hF => ?_) (fun hc hF => ?_)
  · refine sxk 22 tabOK rfl ?_
    refine aops_nil ?_
    refine at_true rfl ?_
    refine at_seq ?_
    refine at_keep [] rfl ?_
    refine at_region ?_
    refine sxk 1 tabOK rfl ?_
    refine aops_nil ?_
    refine at_ret ?_
    refine tk_r ?_
    obtain rfl := Option.some.inj hF
    refine ret_le rfl ?_
    exact (vle_refl _)
  · refine sxk 7 tabOK rfl ?_
    refine ops_ifn (g := 18) hF rfl (fun hc hF => ?_) (fun hc hF => ?_)
    · refine sxk 15 tabOK rfl ?_
      refine aops_nil ?_
      refine at_true rfl ?_
      refine at_seq ?_
      refine at_keep [] rfl ?_
      refine at_region ?_
      refine sxk 1 tabOK rfl ?_
      refine aops_nil ?_
      refine at_ret ?_
      refine tk_r ?_
      obtain rfl := Option.some.inj hF
      refine ret_le rfl ?_
      exact (vle_refl _)
    · refine sxk 7 tabOK rfl ?_
      refine ops_ifn (g := 25) hF rfl (fun hc hF => ?_) (fun hc hF => ?_)
      · refine sxk 8 tabOK rfl ?_
        refine aops_nil ?_
        refine at_true rfl ?_
        refine at_seq ?_
        refine at_keep [] rfl ?_
        refine at_region ?_
        refine sxk 1 tabOK rfl ?_
        refine aops_nil ?_
        refine at_ret ?_
        refine tk_r ?_
        obtain rfl := Option.some.inj hF
        refine ret_le rfl ?_
        exact (vle_refl _)
      · refine sxk 2 tabOK rfl ?_
        refine sv rfl (oc_len cDat tabOK rfl rfl rfl) rfl ?_
        refine sxk 2 tabOK rfl ?_
        refine sv rfl (oc_len cDat tabOK rfl rfl rfl) rfl ?_
        refine sxk 2 tabOK rfl ?_
        refine aops_nil ?_
        refine ct_ifn hF rfl (fun hc hF => ?_) (fun hc hF => ?_)
        · refine at_seq ?_
          refine at_keep [] rfl ?_
          refine at_region ?_
          refine sxk 1 tabOK rfl ?_
          refine aops_nil ?_
          refine at_ret ?_
          refine tk_r ?_
          obtain rfl := Option.some.inj hF
          refine ret_le rfl ?_
          exact (vle_refl _)
        · refine at_skip ?_
          refine at_seq ?_
          refine at_seq ?_
          refine at_keep [2, 3] rfl ?_
          refine at_region ?_
          refine sxk 2 tabOK rfl ?_
          refine sv rfl (oc_len cDat tabOK rfl rfl rfl) rfl ?_
          refine sxk 1 tabOK rfl ?_
          refine aops_nil ?_
          refine at_block ?_
          refine cl_loop (σ := Int) (fun x4 => ⟨[(2, .ptr 3 1 0 0), (3, .ptr 4 1 0 0), (36, .int .i64 (a.items.length : Int)), (37, .int .i64 x4)], [(3, ⟨4, [cDat.row 0 a]⟩), (4, ⟨4, [cDat.row 0 b]⟩)], 5, 53, []⟩) (i_EqualData_L1 i_EqualData a b) LF 0 hF (le_down (down_all (ee_cons rfl rfl (Nat.le_of_ble_eq_true rfl) (ee_cons rfl rfl (Nat.le_of_ble_eq_true rfl) (ee_cons rfl rfl rfl (ee_cons rfl rfl rfl ee_nil)))) (he_cons rfl rfl rfl (row_one (cDat.row_ok _ rfl)) (he_cons rfl rfl rfl (row_one (cDat.row_ok _ rfl)) he_nil)) rfl rfl rfl rfl)) ?_
          rintro lk_ x4 hF
          refine at_eq (s' := ⟨[(2, .ptr 3 1 0 0), (3, .ptr 4 1 0 0), (36, .int .i64 (a.items.length : Int)), (37, .int .i64 x4)], [(3, ⟨4, [cDat.row 0 a]⟩), (4, ⟨4, [cDat.row 0 b]⟩)], 5, 53, []⟩) rfl ?_
          replace hF : i_EqualData_L1b i_EqualData a b (itr (i_EqualData_L1 i_EqualData a b) lk_) x4 = some q := hF
          unfold i_EqualData_L1b at hF
          generalize itr (i_EqualData_L1 i_EqualData a b) lk_ = go5 at hF ⊢
          refine at_seq ?_
          refine at_region ?_
          refine sxk 1 tabOK rfl ?_
          refine aops_nil ?_
          refine at_seq ?_
          refine ct_if hF rfl (fun hc hF => ?_) (fun hc hF => ?_)
          · refine at_skip ?_
            refine at_seq ?_
            refine at_block ?_
            refine at_seq ?_
            refine at_region ?_
            refine sxk 2 tabOK rfl ?_
            refine aops_nil ?_
            refine at_seq ?_
            refine at_drawnM (id := 6) 10 (by kernel_rfl) (by kernel_rfl) ?_
            refine nx tabOK rfl ?_
            refine nx tabOK rfl ?_
            refine nx tabOK rfl ?_
            obtain ⟨x6, hn_x6, hF⟩ := bnd_some hF
            refine nv rfl (oc_addr cDat hn_x6 tabOK rfl rfl rfl rfl) rfl ?_
            refine nx tabOK rfl ?_
            refine nx tabOK rfl ?_
            refine nx tabOK rfl ?_
            refine nx tabOK rfl ?_
            obtain ⟨x7, hn_x7, hF⟩ := bnd_some hF
            refine nv rfl (oc_addr cDat hn_x7 tabOK rfl rfl rfl rfl) rfl ?_
            refine nx tabOK rfl ?_
            refine dn_nil rfl ?_
            obtain ⟨x8, hx8, hF⟩ := bnd_some hF
            refine call_eq (h_i_EqualData x6 x7 x8 hx8) rfl ((rlL_cons (cDat.rl_agg (l := 0) (l' := 0) _ x6 rfl) (rlL_cons (cDat.rl_agg (l := 0) (l' := 0) _ x7 rfl) rlL_nil))) rfl rfl ?_
            refine sxk 1 tabOK rfl ?_
            refine aops_nil ?_
            refine ct_bn hF rfl (fun hc hF => ?_) (fun hc hF => ?_)
            · refine at_seq ?_
              refine at_keep [] rfl ?_
              refine at_region ?_
              refine sxk 1 tabOK rfl ?_
              refine aops_nil ?_
              refine at_ret ?_
              refine bk_r ?_
              refine tk_r ?_
              refine ll_r ?_
              refine bk_r ?_
              refine tk_r ?_
              obtain rfl := Option.some.inj hF
              refine ret_le rfl ?_
              exact (vle_refl _)
            · refine at_skip ?_
              refine bk_n ?_
              refine at_keep [2, 3, 36, 37] rfl ?_
              refine at_region ?_
              obtain ⟨hb, hF⟩ := chk_some hF
              refine s_add tabOK rfl rfl rfl hb rfl ?_
              refine sxk 1 tabOK rfl ?_
              refine aops_nil ?_
              exact arr_loop ⟨(x4 + 1), hF, (le_down (down_all (ee_cons rfl rfl (Nat.le_of_ble_eq_true rfl) (ee_cons rfl rfl (Nat.le_of_ble_eq_true rfl) (ee_cons rfl rfl rfl (ee_cons rfl rfl rfl ee_nil)))) (he_cons rfl rfl rfl (row_one (cDat.row_ok _ rfl)) (he_cons rfl rfl rfl (row_one (cDat.row_ok _ rfl)) he_nil)) rfl rfl rfl rfl))⟩
          · refine at_exit ?_
            refine tk_x ?_
            refine ll_x ?_
            refine bk_hit ?_
            refine at_seq ?_
            refine at_region ?_
            refine sxk 1 tabOK rfl ?_
            refine aops_nil ?_
            refine at_ret ?_
            obtain rfl := Option.some.inj hF
            refine ret_le rfl ?_
            exact (vle_refl _)

theorem i_EqualData_all (n : Nat) : (∀ (a : PDat) (b : PDat) (q : Bool), i_EqualData n a b = some q → FC Tryd.prog 51 [.agg (cDat.row 0 a), .agg (cDat.row 0 b)] [] 3 (fun x _ => x = .bool q)) := by
  induction n with
  | zero => exact fun _ _ q h => by cases h
  | succ n ih => exact fun a b q h => i_EqualData_bok (i_EqualData n) ih a b q h

theorem i_EqualData_ok (n : Nat) (a : PDat) (b : PDat) (q : Bool) (hF : i_EqualData n a b = some q) : FC Tryd.prog 51 [.agg (cDat.row 0 a), .agg (cDat.row 0 b)] [] 3 (fun x _ => x = .bool q) := (i_EqualData_all n) a b q hF

theorem i_instrOk_ok (x_1 : PInstr) (q : Bool) (hF : i_instrOk x_1 = some q) : FC Tryd.prog 34 [.agg (cInstr.row 0 x_1)] [] 3 (fun x _ => x = .bool q) := by
  refine FC.of_le ?_
  refine fc_body tabOK Tryd.func34 rfl Tryd.ntmps34 rfl rfl rfl ?_
  unfold i_instrOk at hF
  refine at_seq ?_
  refine at_region ?_
  refine sxk 2 tabOK rfl ?_
  refine aops_nil ?_
  refine at_seq ?_
  refine at_seq ?_
  refine at_region ?_
  refine sxk 4 tabOK rfl ?_
  refine ops_if (g := 6) hF rfl (fun hc hF => ?_) (fun hc hF => ?_)
  · refine sxk 4 tabOK rfl ?_
    refine aops_nil ?_
    refine at_true rfl ?_
    refine at_seq ?_
    refine at_keep [] rfl ?_
    refine at_region ?_
    refine sxk 1 tabOK rfl ?_
    refine aops_nil ?_
    refine at_ret ?_
    refine tk_r ?_
    obtain rfl := Option.some.inj hF
    refine ret_le rfl ?_
    exact (vle_refl _)
  · refine sxk 4 tabOK rfl ?_
    refine aops_nil ?_
    refine ct_if hF rfl (fun hc hF => ?_) (fun hc hF => ?_)
    · refine at_seq ?_
      refine at_keep [] rfl ?_
      refine at_region ?_
      refine sxk 1 tabOK rfl ?_
      refine aops_nil ?_
      refine at_ret ?_
      refine tk_r ?_
      obtain rfl := Option.some.inj hF
      refine ret_le rfl ?_
      exact (vle_refl _)
    · refine at_skip ?_
      refine at_seq ?_
      refine at_seq ?_
      refine at_keep [1] rfl ?_
      refine at_region ?_
      refine sxk 3 tabOK rfl ?_
      refine aops_nil ?_
      refine ct_if hF rfl (fun hc hF => ?_) (fun hc hF => ?_)
      · refine at_seq ?_
        refine at_region ?_
        refine sxk 4 tabOK rfl ?_
        refine ops_if (g := 17) hF rfl (fun hc hF => ?_) (fun hc hF => ?_)
        · refine sxk 2 tabOK rfl ?_
          obtain ⟨x2, hx2, hF⟩ := bnd_some hF
          refine call_eq (i_IsDatum_ok x_1.d x2 hx2) rfl ((rlL_cons (cDat.rl_agg (l := 0) (l' := 0) _ x_1.d rfl) rlL_nil)) rfl rfl ?_
          refine sxk 2 tabOK rfl ?_
          refine aops_nil ?_
          refine at_ret ?_
          refine tk_r ?_
          obtain rfl := Option.some.inj hF
          refine ret_le rfl ?_
          exact (vle_refl _)
        · refine sxk 5 tabOK rfl ?_
          refine aops_nil ?_
          refine at_ret ?_
          refine tk_r ?_
          obtain rfl := Option.some.inj hF
          refine ret_le rfl ?_
          exact (vle_refl _)
      · refine at_skip ?_
        refine at_seq ?_
        refine at_seq ?_
        refine at_region ?_
        refine sxk 2 tabOK rfl ?_
        refine sv rfl (ov_build tabOK rfl rfl) rfl ?_
        refine ops_le (le_slot (y := .agg [.int .i64 0, .int .i64 0, .str ([] : List UInt8), .psl 1 4 ([].map (cDat.enc 1))]) 24 rfl (vle_agg (.cons (vle_refl _) (.cons (vle_refl _) (.cons (vle_refl _) (.cons (vle_nil _ _) .nil))))) rfl) ?_
        obtain ⟨x2, hx2, hF⟩ := bnd_some hF
        refine call_eq (i_EqualData_ok RF x_1.d (PDat.mk 0 0 ([] : List UInt8) []) x2 hx2) rfl ((rlL_cons (cDat.rl_agg (l := 0) (l' := 0) _ x_1.d rfl) (rlL_cons (rl_aggL (rlL_cons (rfl) (rlL_cons (rfl) (rlL_cons (rfl) (rlL_cons (cDat.rl_psl (l := 1) (l' := 0) _ [] rfl) rlL_nil))))) rlL_nil))) rfl rfl ?_
        refine sxk 2 tabOK rfl ?_
        refine ops_ifnb (g := 27) hF rfl (fun hc hF => ?_) (fun hc hF => ?_)
        · refine sxk 9 tabOK rfl ?_
          refine aops_nil ?_
          refine at_true rfl ?_
          refine at_seq ?_
          refine at_keep [] rfl ?_
          refine at_region ?_
          refine sxk 1 tabOK rfl ?_
          refine aops_nil ?_
          refine at_ret ?_
          refine tk_r ?_
          obtain rfl := Option.some.inj hF
          refine ret_le rfl ?_
          exact (vle_refl _)
        · refine sxk 5 tabOK rfl ?_
          refine ops_if (g := 32) hF rfl (fun hc hF => ?_) (fun hc hF => ?_)
          · refine sxk 4 tabOK rfl ?_
            refine aops_nil ?_
            refine at_true rfl ?_
            refine at_seq ?_
            refine at_keep [] rfl ?_
            refine at_region ?_
            refine sxk 1 tabOK rfl ?_
            refine aops_nil ?_
            refine at_ret ?_
            refine tk_r ?_
            obtain rfl := Option.some.inj hF
            refine ret_le rfl ?_
            exact (vle_refl _)
          · refine sxk 4 tabOK rfl ?_
            refine aops_nil ?_
            refine ct_if hF rfl (fun hc hF => ?_) (fun hc hF => ?_)
            · refine at_seq ?_
              refine at_keep [] rfl ?_
              refine at_region ?_
              refine sxk 1 tabOK rfl ?_
              refine aops_nil ?_
              refine at_ret ?_
              refine tk_r ?_
              obtain rfl := Option.some.inj hF
              refine ret_le rfl ?_
              exact (vle_refl _)
            · refine at_skip ?_
              refine at_seq ?_
              refine at_keep [1] rfl ?_
              refine at_region ?_
              refine sxk 4 tabOK rfl ?_
              refine ops_if (g := 40) hF rfl (fun hc hF => ?_) (fun hc hF => ?_)
              · refine sxk 10 tabOK rfl ?_
                refine aops_nil ?_
                refine at_ret ?_
                obtain rfl := Option.some.inj hF
                refine ret_le rfl ?_
                exact (vle_refl _)
              · refine sxk 4 tabOK rfl ?_
                refine ops_ifn (g := 44) hF rfl (fun hc hF => ?_) (fun hc hF => ?_)
                · refine sxk 6 tabOK rfl ?_
                  refine aops_nil ?_
                  refine at_ret ?_
                  obtain rfl := Option.some.inj hF
                  refine ret_le rfl ?_
                  exact (vle_refl _)
                · refine sxk 6 tabOK rfl ?_
                  refine aops_nil ?_
                  refine at_ret ?_
                  obtain rfl := Option.some.inj hF
                  refine ret_le rfl ?_
                  exact (vle_refl _)

theorem i_FormatInstr_ok (x_1 : PInstr) (q : List UInt8) (hF : i_FormatInstr x_1 = some q) : FC Tryd.prog 18 [.agg (cInstr.row 0 x_1)] [] 3 (fun x _ => x = .str q) := by
  refine FC.of_le ?_
  refine fc_body tabOK Tryd.func18 rfl Tryd.ntmps18 rfl rfl rfl ?_
  unfold i_FormatInstr at hF
  refine at_seq ?_
  refine at_region ?_
  refine sxk 2 tabOK rfl ?_
  refine aops_nil ?_
  refine at_seq ?_
  refine at_seq ?_
  refine at_region ?_
  refine sxk 1 tabOK rfl ?_
  obtain ⟨x2, hx2, hF⟩ := bnd_some hF
  refine call_eq (i_instrOk_ok x_1 x2 hx2) rfl ((rlL_cons (cInstr.rl_agg (l := 0) (l' := 0) _ x_1 rfl) rlL_nil)) rfl rfl ?_
  refine sxk 1 tabOK rfl ?_
  refine aops_nil ?_
  refine ct_bn hF rfl (fun hc hF => ?_) (fun hc hF => ?_)
  · refine at_seq ?_
    refine at_region ?_
    refine sxk 1 tabOK rfl ?_
    refine aops_nil ?_
    refine at_ret ?_
    refine tk_r ?_
    obtain rfl := Option.some.inj hF
    refine ret_le rfl ?_
    exact (vle_refl _)
  · refine at_skip ?_
    refine at_seq ?_
    refine at_seq ?_
    refine at_region ?_
    refine sxk 2 tabOK rfl ?_
    refine aops_nil ?_
    refine at_block ?_
    refine at_seq ?_
    refine at_region ?_
    refine sxk 2 tabOK rfl ?_
    refine aops_nil ?_
    refine ct_if hF rfl (fun hc hF => ?_) (fun hc hF => ?_)
    · refine at_seq ?_
      refine at_keep [1] rfl ?_
      refine at_drawnM (id := 5) 7 (by kernel_rfl) (by kernel_rfl) ?_
      refine nx tabOK rfl ?_
      refine nx tabOK rfl ?_
      obtain ⟨x3, hx3, hF⟩ := bnd_some hF
      refine n_call (i_OpName_ok x_1.op x3 hx3) rfl ((rlL_cons (rfl) rlL_nil)) rfl rfl ?_
      obtain ⟨hb, hF⟩ := chk_some hF
      refine nv rfl (ov_cat rfl rfl hb) rfl ?_
      refine nx tabOK rfl ?_
      refine nx tabOK rfl ?_
      obtain ⟨x4, hx4, hF⟩ := bnd_some hF
      refine n_call (i_FormatDatum_ok x_1.d x4 hx4) rfl ((rlL_cons (cDat.rl_agg (l := 0) (l' := 0) _ x_1.d rfl) rlL_nil)) rfl rfl ?_
      refine dn_nil rfl ?_
      obtain ⟨hb, hF⟩ := chk_some hF
      refine sv rfl (ov_cat rfl rfl hb) rfl ?_
      refine sxk 1 tabOK rfl ?_
      refine aops_nil ?_
      refine at_ret ?_
      refine bk_r ?_
      refine tk_r ?_
      obtain rfl := Option.some.inj hF
      refine ret_le rfl ?_
      exact (vle_refl _)
    · refine at_seq ?_
      refine at_seq ?_
      refine at_keep [1, 7] rfl ?_
      refine at_region ?_
      refine sxk 2 tabOK rfl ?_
      refine aops_nil ?_
      refine ct_if hF rfl (fun hc hF => ?_) (fun hc hF => ?_)
      · refine at_skip ?_
        refine at_true rfl ?_
        refine at_seq ?_
        refine at_region ?_
        refine sxk 2 tabOK rfl ?_
        obtain ⟨x3, hx3, hF⟩ := bnd_some hF
        refine call_eq (i_OpName_ok x_1.op x3 hx3) rfl ((rlL_cons (rfl) rlL_nil)) rfl rfl ?_
        refine sxk 1 tabOK rfl ?_
        refine aops_nil ?_
        refine at_ret ?_
        refine bk_r ?_
        refine tk_r ?_
        obtain rfl := Option.some.inj hF
        refine ret_le rfl ?_
        exact (vle_refl _)
      · refine at_region ?_
        refine sxk 2 tabOK rfl ?_
        refine aops_nil ?_
        refine ct_if hF rfl (fun hc hF => ?_) (fun hc hF => ?_)
        · refine at_seq ?_
          refine at_region ?_
          refine sxk 2 tabOK rfl ?_
          obtain ⟨x3, hx3, hF⟩ := bnd_some hF
          refine call_eq (i_OpName_ok x_1.op x3 hx3) rfl ((rlL_cons (rfl) rlL_nil)) rfl rfl ?_
          refine sxk 1 tabOK rfl ?_
          refine aops_nil ?_
          refine at_ret ?_
          refine bk_r ?_
          refine tk_r ?_
          obtain rfl := Option.some.inj hF
          refine ret_le rfl ?_
          exact (vle_refl _)
        · refine at_skip ?_
          refine bk_n ?_
          refine at_seq ?_
          refine at_drawnM (id := 9) 7 (by kernel_rfl) (by kernel_rfl) ?_
          refine nx tabOK rfl ?_
          refine nx tabOK rfl ?_
          obtain ⟨x3, hx3, hF⟩ := bnd_some hF
          refine n_call (i_OpName_ok x_1.op x3 hx3) rfl ((rlL_cons (rfl) rlL_nil)) rfl rfl ?_
          obtain ⟨hb, hF⟩ := chk_some hF
          refine nv rfl (ov_cat rfl rfl hb) rfl ?_
          refine nx tabOK rfl ?_
          refine nx tabOK rfl ?_
          obtain ⟨x4, hx4, hF⟩ := bnd_some hF
          refine n_call (i_FormatNumber_ok x_1.a x4 hx4) rfl ((rlL_cons (rfl) rlL_nil)) rfl rfl ?_
          refine dn_nil rfl ?_
          obtain ⟨hb, hF⟩ := chk_some hF
          refine sv rfl (ov_cat rfl rfl hb) rfl ?_
          refine sxk 1 tabOK rfl ?_
          refine aops_nil ?_
          refine at_ret ?_
          obtain rfl := Option.some.inj hF
          refine ret_le rfl ?_
          exact (vle_refl _)

end Go.Proofs.YtiecdekmiabmkaaDoor
