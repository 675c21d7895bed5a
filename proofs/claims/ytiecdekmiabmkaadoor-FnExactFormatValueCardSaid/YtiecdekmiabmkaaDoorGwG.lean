/-
  Walks, made by wip/gen: G
-/
import Derived.Test.YtiecdekmiabmkaaDoorGpG
import Derived.Test.YtiecdekmiabmkaaDoorGwF
set_option linter.unusedVariables false
set_option linter.unusedSimpArgs false
namespace Go.Proofs.YtiecdekmiabmkaaDoor
open Go.Abs
attribute [local irreducible] AT AOps FC DR DN
set_option maxRecDepth 10000
set_option maxHeartbeats 4000000

theorem s_l1In_ok (x_1 : Int) (a : Int) (b : Int) (q : Bool) (hF : s_l1In x_1 a b = some q) : FC Tryd.prog 20 [.int .i64 x_1, .int .i64 a, .int .i64 b] [] 3 (fun x _ => x = .bool q) := by
  refine FC.of_le ?_
  refine fc_body tabOK Tryd.func20 rfl Tryd.ntmps20 rfl rfl rfl ?_
  unfold s_l1In at hF
  refine at_seq ?_
  refine at_region ?_
  refine sxk 1 tabOK rfl ?_
  refine aops_nil ?_
  refine at_seq ?_
  refine at_region ?_
  refine sxk 4 tabOK rfl ?_
  refine ops_if (g := 10) hF rfl (fun hc hF => ?_) (fun hc hF => ?_)
  · refine sxk 5 tabOK rfl ?_
    refine aops_nil ?_
    refine at_ret ?_
    obtain rfl := Option.some.inj hF
    refine ret_le rfl ?_
    exact (vle_refl _)
  · refine sxk 5 tabOK rfl ?_
    refine aops_nil ?_
    refine at_ret ?_
    obtain rfl := Option.some.inj hF
    refine ret_le rfl ?_
    exact (vle_refl _)

theorem s_l1Digit_ok (b : Int) (q : Bool) (hF : s_l1Digit b = some q) : FC Tryd.prog 66 [.int .u8 b] [] 3 (fun x _ => x = .bool q) := by
  refine FC.of_le ?_
  refine fc_body tabOK Tryd.func66 rfl Tryd.ntmps66 rfl rfl rfl ?_
  unfold s_l1Digit at hF
  refine at_seq ?_
  refine at_region ?_
  refine sxk 1 tabOK rfl ?_
  refine aops_nil ?_
  refine at_seq ?_
  refine at_region ?_
  refine sxk 3 tabOK rfl ?_
  refine ops_if (g := 5) hF rfl (fun hc hF => ?_) (fun hc hF => ?_)
  · refine sxk 4 tabOK rfl ?_
    refine aops_nil ?_
    refine at_ret ?_
    obtain rfl := Option.some.inj hF
    refine ret_le rfl ?_
    exact (vle_refl _)
  · refine sxk 4 tabOK rfl ?_
    refine aops_nil ?_
    refine at_ret ?_
    obtain rfl := Option.some.inj hF
    refine ret_le rfl ?_
    exact (vle_refl _)

theorem s_l1Mark_ok (b : Int) (q : Bool) (hF : s_l1Mark b = some q) : FC Tryd.prog 67 [.int .u8 b] [] 3 (fun x _ => x = .bool q) := by
  refine FC.of_le ?_
  refine fc_body tabOK Tryd.func67 rfl Tryd.ntmps67 rfl rfl rfl ?_
  unfold s_l1Mark at hF
  refine at_seq ?_
  refine at_region ?_
  refine sxk 1 tabOK rfl ?_
  refine aops_nil ?_
  refine at_seq ?_
  refine at_seq ?_
  refine cl_midn (σ := Bool) (fun x2 => ⟨[(0, .int .u8 b), (14, .bool x2)], [], 3, 26, []⟩) (fun x2 => s_l1Mark_J1 b x2 = some q) ?_ ?_
  · refine at_region ?_
    refine sxk 3 tabOK rfl ?_
    refine ops_if (g := 7) hF rfl (fun hc hF => ?_) (fun hc hF => ?_)
    · refine sxk 4 tabOK rfl ?_
      refine ops_if (g := 11) hF rfl (fun hc hF => ?_) (fun hc hF => ?_)
      · refine sxk 3 tabOK rfl ?_
        refine aops_nil ?_
        exact arr_cut ⟨true, hF, (le_down (down_all (ee_cons rfl rfl rfl (ee_cons rfl rfl rfl ee_nil)) he_nil rfl rfl rfl rfl))⟩
      · refine sxk 1 tabOK rfl ?_
        obtain ⟨x2, hx2, hF⟩ := bnd_some hF
        refine call_eq (s_l1Digit_ok b x2 hx2) rfl ((rlL_cons (rfl) rlL_nil)) rfl rfl ?_
        refine sxk 1 tabOK rfl ?_
        refine aops_nil ?_
        exact arr_cut ⟨x2, hF, (le_down (down_all (ee_cons rfl rfl rfl (ee_cons rfl rfl rfl ee_nil)) he_nil rfl rfl rfl rfl))⟩
    · refine sxk 5 tabOK rfl ?_
      obtain ⟨x2, hx2, hF⟩ := bnd_some hF
      refine call_eq (s_l1Digit_ok b x2 hx2) rfl ((rlL_cons (rfl) rlL_nil)) rfl rfl ?_
      refine sxk 1 tabOK rfl ?_
      refine aops_nil ?_
      exact arr_cut ⟨x2, hF, (le_down (down_all (ee_cons rfl rfl rfl (ee_cons rfl rfl rfl ee_nil)) he_nil rfl rfl rfl rfl))⟩
  · rintro x2 hF
    refine at_eq (s' := ⟨[(0, .int .u8 b), (14, .bool x2)], [], 3, 26, []⟩) rfl ?_
    replace hF : s_l1Mark_J1 b x2 = some q := hF
    unfold s_l1Mark_J1 at hF
    refine ct_b hF rfl (fun hc hF => ?_) (fun hc hF => ?_)
    · refine at_seq ?_
      refine at_region ?_
      refine sxk 1 tabOK rfl ?_
      refine aops_nil ?_
      refine at_ret ?_
      refine tk_r ?_
      obtain rfl := Option.some.inj hF
      refine ret_le rfl ?_
      exact (vle_refl _)
    · refine at_skip ?_
      refine at_seq ?_
      refine at_region ?_
      refine sxk 1 tabOK rfl ?_
      refine aops_nil ?_
      refine at_seq ?_
      refine at_seq ?_
      refine at_region ?_
      refine sxk 1 tabOK rfl ?_
      refine aops_nil ?_
      refine at_block ?_
      refine cl_loop (σ := Int) (fun i3 => ⟨[(0, .int .u8 b), (3, .str ([33, 63, 42, 60, 62, 61, 47, 43, 45, 46, 95] : List UInt8)), (4, .int .i64 i3)], [], 3, 26, []⟩) (s_l1Mark_L2 b) LF 0 hF (le_down (down_all (ee_cons rfl rfl rfl (ee_cons rfl rfl rfl (ee_cons rfl rfl rfl ee_nil))) he_nil rfl rfl rfl rfl)) ?_
      rintro lk_ i3 hF
      refine at_eq (s' := ⟨[(0, .int .u8 b), (3, .str ([33, 63, 42, 60, 62, 61, 47, 43, 45, 46, 95] : List UInt8)), (4, .int .i64 i3)], [], 3, 26, []⟩) rfl ?_
      replace hF : s_l1Mark_L2b b (itr (s_l1Mark_L2 b) lk_) i3 = some q := hF
      unfold s_l1Mark_L2b at hF
      generalize itr (s_l1Mark_L2 b) lk_ = go4 at hF ⊢
      refine at_seq ?_
      refine at_seq ?_
      refine at_region ?_
      refine sxk 4 tabOK rfl ?_
      refine aops_nil ?_
      refine ct_if hF rfl (fun hc hF => ?_) (fun hc hF => ?_)
      · refine at_skip ?_
        refine at_seq ?_
        refine at_block ?_
        refine at_seq ?_
        refine at_region ?_
        refine sxk 2 tabOK rfl ?_
        obtain ⟨x5, hn_x5, hF⟩ := bnd_some hF
        refine sv rfl (oc_byte hn_x5 tabOK rfl rfl rfl) rfl ?_
        refine sxk 2 tabOK rfl ?_
        refine aops_nil ?_
        refine ct_if hF rfl (fun hc hF => ?_) (fun hc hF => ?_)
        · refine at_seq ?_
          refine at_keep [] rfl ?_
          refine at_region ?_
          refine sxk 1 tabOK rfl ?_
          refine aops_nil ?_
          refine at_ret ?_
          refine bk_r ?_
          refine tk_r ?_
          refine ll_r ?_
          refine bk_r ?_
          refine tk_r ?_
          obtain rfl := Option.some.inj hF
          refine ret_le rfl ?_
          exact (vle_refl _)
        · refine at_skip ?_
          refine bk_n ?_
          refine at_keep [0, 3, 4] rfl ?_
          refine at_region ?_
          refine sxk 1 tabOK rfl ?_
          obtain ⟨hb, hF⟩ := chk_some hF
          refine s_add tabOK rfl rfl rfl hb rfl ?_
          refine sxk 1 tabOK rfl ?_
          refine aops_nil ?_
          exact arr_loop ⟨(i3 + 1), hF, (le_down (down_all (ee_cons rfl rfl rfl (ee_cons rfl rfl rfl (ee_cons rfl rfl rfl ee_nil))) he_nil rfl rfl rfl rfl))⟩
      · refine at_exit ?_
        refine tk_x ?_
        refine ll_x ?_
        refine bk_hit ?_
        refine at_seq ?_
        refine at_keep [] rfl ?_
        refine at_region ?_
        refine sxk 1 tabOK rfl ?_
        refine aops_nil ?_
        refine at_ret ?_
        obtain rfl := Option.some.inj hF
        refine ret_le rfl ?_
        exact (vle_refl _)

theorem s_IsSymbol_ok (s : List UInt8) (q : Bool) (hF : s_IsSymbol s = some q) : FC Tryd.prog 55 [.str s] [] 3 (fun x _ => x = .bool q) := by
  refine FC.of_le ?_
  refine fc_body tabOK Tryd.func55 rfl Tryd.ntmps55 rfl rfl rfl ?_
  unfold s_IsSymbol at hF
  refine at_seq ?_
  refine at_region ?_
  refine sxk 1 tabOK rfl ?_
  refine aops_nil ?_
  refine at_seq ?_
  refine at_seq ?_
  refine cl_midn (σ := Bool) (fun x2 => ⟨[(0, .str s), (27, .bool x2)], [], 3, 39, []⟩) (fun x2 => s_IsSymbol_J1 s x2 = some q) ?_ ?_
  · refine at_region ?_
    refine sxk 2 tabOK rfl ?_
    obtain ⟨x2, hx2, hF⟩ := bnd_some hF
    refine call_eq (s_l1In_ok (s.length : Int) 1 16 x2 hx2) rfl ((rlL_cons (rfl) (rlL_cons (rfl) (rlL_cons (rfl) rlL_nil)))) rfl rfl ?_
    refine sxk 2 tabOK rfl ?_
    refine ops_ifnb (g := 8) hF rfl (fun hc hF => ?_) (fun hc hF => ?_)
    · refine sxk 19 tabOK rfl ?_
      refine aops_nil ?_
      exact arr_cut ⟨true, hF, (le_down (down_all (ee_cons rfl rfl rfl (ee_cons rfl rfl rfl ee_nil)) he_nil rfl rfl rfl rfl))⟩
    · refine sxk 1 tabOK rfl ?_
      obtain ⟨x3, hn_x3, hF⟩ := bnd_some hF
      refine sv rfl (oc_byte hn_x3 tabOK rfl rfl rfl) rfl ?_
      obtain ⟨x4, hx4, hF⟩ := bnd_some hF
      refine call_eq (s_l1Digit_ok (x3.toNat : Int) x4 hx4) rfl ((rlL_cons (rfl) rlL_nil)) rfl rfl ?_
      refine sxk 2 tabOK rfl ?_
      refine ops_ifb (g := 13) hF rfl (fun hc hF => ?_) (fun hc hF => ?_)
      · refine sxk 14 tabOK rfl ?_
        refine aops_nil ?_
        exact arr_cut ⟨true, hF, (le_down (down_all (ee_cons rfl rfl rfl (ee_cons rfl rfl rfl ee_nil)) he_nil rfl rfl rfl rfl))⟩
      · refine sxk 1 tabOK rfl ?_
        obtain ⟨x5, hn_x5, hF⟩ := bnd_some hF
        refine sv rfl (oc_byte hn_x5 tabOK rfl rfl rfl) rfl ?_
        refine sxk 2 tabOK rfl ?_
        refine ops_if (g := 17) hF rfl (fun hc hF => ?_) (fun hc hF => ?_)
        · refine sxk 5 tabOK rfl ?_
          refine ops_if (g := 22) hF rfl (fun hc hF => ?_) (fun hc hF => ?_)
          · refine sxk 1 tabOK rfl ?_
            obtain ⟨x6, hn_x6, hF⟩ := bnd_some hF
            refine sv rfl (oc_byte hn_x6 tabOK rfl rfl rfl) rfl ?_
            obtain ⟨x7, hx7, hF⟩ := bnd_some hF
            refine call_eq (s_l1Digit_ok (x6.toNat : Int) x7 hx7) rfl ((rlL_cons (rfl) rlL_nil)) rfl rfl ?_
            refine sxk 2 tabOK rfl ?_
            refine aops_nil ?_
            exact arr_cut ⟨x7, hF, (le_down (down_all (ee_cons rfl rfl rfl (ee_cons rfl rfl rfl ee_nil)) he_nil rfl rfl rfl rfl))⟩
          · refine sxk 5 tabOK rfl ?_
            refine aops_nil ?_
            exact arr_cut ⟨false, hF, (le_down (down_all (ee_cons rfl rfl rfl (ee_cons rfl rfl rfl ee_nil)) he_nil rfl rfl rfl rfl))⟩
        · refine sxk 10 tabOK rfl ?_
          refine aops_nil ?_
          exact arr_cut ⟨false, hF, (le_down (down_all (ee_cons rfl rfl rfl (ee_cons rfl rfl rfl ee_nil)) he_nil rfl rfl rfl rfl))⟩
  · rintro x2 hF
    refine at_eq (s' := ⟨[(0, .str s), (27, .bool x2)], [], 3, 39, []⟩) rfl ?_
    replace hF : s_IsSymbol_J1 s x2 = some q := hF
    unfold s_IsSymbol_J1 at hF
    refine ct_b hF rfl (fun hc hF => ?_) (fun hc hF => ?_)
    · refine at_seq ?_
      refine at_region ?_
      refine sxk 1 tabOK rfl ?_
      refine aops_nil ?_
      refine at_ret ?_
      refine tk_r ?_
      obtain rfl := Option.some.inj hF
      refine ret_le rfl ?_
      exact (vle_refl _)
    · refine at_skip ?_
      refine at_seq ?_
      refine at_seq ?_
      refine at_region ?_
      refine sxk 1 tabOK rfl ?_
      refine aops_nil ?_
      refine at_block ?_
      refine cl_loop (σ := Int) (fun i3 => ⟨[(0, .str s), (3, .int .i64 i3)], [], 3, 39, []⟩) (s_IsSymbol_L2 s) LF 0 hF (le_down (down_all (ee_cons rfl rfl rfl (ee_cons rfl rfl rfl ee_nil)) he_nil rfl rfl rfl rfl)) ?_
      rintro lk_ i3 hF
      refine at_eq (s' := ⟨[(0, .str s), (3, .int .i64 i3)], [], 3, 39, []⟩) rfl ?_
      replace hF : s_IsSymbol_L2b s (itr (s_IsSymbol_L2 s) lk_) i3 = some q := hF
      unfold s_IsSymbol_L2b at hF
      generalize itr (s_IsSymbol_L2 s) lk_ = go4 at hF ⊢
      refine at_seq ?_
      refine at_seq ?_
      refine at_region ?_
      refine sxk 4 tabOK rfl ?_
      refine aops_nil ?_
      refine ct_if hF rfl (fun hc hF => ?_) (fun hc hF => ?_)
      · refine at_skip ?_
        refine at_seq ?_
        refine at_block ?_
        refine at_seq ?_
        refine at_region ?_
        refine sxk 2 tabOK rfl ?_
        obtain ⟨x5, hn_x5, hF⟩ := bnd_some hF
        refine sv rfl (oc_byte hn_x5 tabOK rfl rfl rfl) rfl ?_
        obtain ⟨x6, hx6, hF⟩ := bnd_some hF
        refine call_eq (s_l1Mark_ok (x5.toNat : Int) x6 hx6) rfl ((rlL_cons (rfl) rlL_nil)) rfl rfl ?_
        refine sxk 1 tabOK rfl ?_
        refine aops_nil ?_
        refine ct_bn hF rfl (fun hc hF => ?_) (fun hc hF => ?_)
        · refine at_seq ?_
          refine at_keep [] rfl ?_
          refine at_region ?_
          refine sxk 1 tabOK rfl ?_
          refine aops_nil ?_
          refine at_ret ?_
          refine bk_r ?_
          refine tk_r ?_
          refine ll_r ?_
          refine bk_r ?_
          refine tk_r ?_
          obtain rfl := Option.some.inj hF
          refine ret_le rfl ?_
          exact (vle_refl _)
        · refine at_skip ?_
          refine bk_n ?_
          refine at_keep [0, 3] rfl ?_
          refine at_region ?_
          refine sxk 1 tabOK rfl ?_
          obtain ⟨hb, hF⟩ := chk_some hF
          refine s_add tabOK rfl rfl rfl hb rfl ?_
          refine sxk 1 tabOK rfl ?_
          refine aops_nil ?_
          exact arr_loop ⟨(i3 + 1), hF, (le_down (down_all (ee_cons rfl rfl rfl (ee_cons rfl rfl rfl ee_nil)) he_nil rfl rfl rfl rfl))⟩
      · refine at_exit ?_
        refine tk_x ?_
        refine ll_x ?_
        refine bk_hit ?_
        refine at_seq ?_
        refine at_region ?_
        refine sxk 1 tabOK rfl ?_
        refine aops_nil ?_
        refine at_ret ?_
        obtain rfl := Option.some.inj hF
        refine ret_le rfl ?_
        exact (vle_refl _)

theorem s_l1String_ok (s : List UInt8) (q : Bool) (hF : s_l1String s = some q) : FC Tryd.prog 56 [.str s] [] 3 (fun x _ => x = .bool q) := by
  refine FC.of_le ?_
  refine fc_body tabOK Tryd.func56 rfl Tryd.ntmps56 rfl rfl rfl ?_
  unfold s_l1String at hF
  refine at_seq ?_
  refine at_region ?_
  refine sxk 1 tabOK rfl ?_
  refine aops_nil ?_
  refine at_seq ?_
  refine at_seq ?_
  refine at_region ?_
  refine sxk 1 tabOK rfl ?_
  refine aops_nil ?_
  refine at_block ?_
  refine cl_loop (σ := Int) (fun i2 => ⟨[(0, .str s), (3, .int .i64 i2)], [], 3, 29, []⟩) (s_l1String_L1 s) LF 0 hF (le_down (down_all (ee_cons rfl rfl rfl (ee_cons rfl rfl rfl ee_nil)) he_nil rfl rfl rfl rfl)) ?_
  rintro lk_ i2 hF
  refine at_eq (s' := ⟨[(0, .str s), (3, .int .i64 i2)], [], 3, 29, []⟩) rfl ?_
  replace hF : s_l1String_L1b s (itr (s_l1String_L1 s) lk_) i2 = some q := hF
  unfold s_l1String_L1b at hF
  generalize itr (s_l1String_L1 s) lk_ = go3 at hF ⊢
  refine at_seq ?_
  refine at_seq ?_
  refine at_region ?_
  refine sxk 4 tabOK rfl ?_
  refine aops_nil ?_
  refine ct_if hF rfl (fun hc hF => ?_) (fun hc hF => ?_)
  · refine at_skip ?_
    refine at_seq ?_
    refine at_block ?_
    refine at_seq ?_
    refine at_region ?_
    refine sxk 2 tabOK rfl ?_
    obtain ⟨x4, hn_x4, hF⟩ := bnd_some hF
    refine sv rfl (oc_byte hn_x4 tabOK rfl rfl rfl) rfl ?_
    refine sxk 2 tabOK rfl ?_
    refine ops_if (g := 14) hF rfl (fun hc hF => ?_) (fun hc hF => ?_)
    · refine sxk 11 tabOK rfl ?_
      refine aops_nil ?_
      refine at_true rfl ?_
      refine at_seq ?_
      refine at_keep [] rfl ?_
      refine at_region ?_
      refine sxk 1 tabOK rfl ?_
      refine aops_nil ?_
      refine at_ret ?_
      refine bk_r ?_
      refine tk_r ?_
      refine ll_r ?_
      refine bk_r ?_
      refine tk_r ?_
      obtain rfl := Option.some.inj hF
      refine ret_le rfl ?_
      exact (vle_refl _)
    · refine sxk 2 tabOK rfl ?_
      obtain ⟨x5, hn_x5, hF⟩ := bnd_some hF
      refine sv rfl (oc_byte hn_x5 tabOK rfl rfl rfl) rfl ?_
      refine sxk 3 tabOK rfl ?_
      refine ops_if (g := 20) hF rfl (fun hc hF => ?_) (fun hc hF => ?_)
      · refine sxk 5 tabOK rfl ?_
        refine aops_nil ?_
        refine at_true rfl ?_
        refine at_seq ?_
        refine at_keep [] rfl ?_
        refine at_region ?_
        refine sxk 1 tabOK rfl ?_
        refine aops_nil ?_
        refine at_ret ?_
        refine bk_r ?_
        refine tk_r ?_
        refine ll_r ?_
        refine bk_r ?_
        refine tk_r ?_
        obtain rfl := Option.some.inj hF
        refine ret_le rfl ?_
        exact (vle_refl _)
      · refine sxk 2 tabOK rfl ?_
        obtain ⟨x6, hn_x6, hF⟩ := bnd_some hF
        refine sv rfl (oc_byte hn_x6 tabOK rfl rfl rfl) rfl ?_
        refine sxk 2 tabOK rfl ?_
        refine aops_nil ?_
        refine ct_if hF rfl (fun hc hF => ?_) (fun hc hF => ?_)
        · refine at_seq ?_
          refine at_keep [] rfl ?_
          refine at_region ?_
          refine sxk 1 tabOK rfl ?_
          refine aops_nil ?_
          refine at_ret ?_
          refine bk_r ?_
          refine tk_r ?_
          refine ll_r ?_
          refine bk_r ?_
          refine tk_r ?_
          obtain rfl := Option.some.inj hF
          refine ret_le rfl ?_
          exact (vle_refl _)
        · refine at_skip ?_
          refine bk_n ?_
          refine at_keep [0, 3, 15, 16, 17, 18, 21, 22, 23, 24] rfl ?_
          refine at_region ?_
          refine sxk 1 tabOK rfl ?_
          obtain ⟨hb, hF⟩ := chk_some hF
          refine s_add tabOK rfl rfl rfl hb rfl ?_
          refine sxk 1 tabOK rfl ?_
          refine aops_nil ?_
          exact arr_loop ⟨(i2 + 1), hF, (le_down (down_all (ee_cons rfl rfl rfl (ee_cons rfl rfl rfl ee_nil)) he_nil rfl rfl rfl rfl))⟩
  · refine at_exit ?_
    refine tk_x ?_
    refine ll_x ?_
    refine bk_hit ?_
    refine at_seq ?_
    refine at_region ?_
    refine sxk 4 tabOK rfl ?_
    refine aops_nil ?_
    refine at_ret ?_
    obtain rfl := Option.some.inj hF
    refine ret_le rfl ?_
    exact (vle_refl _)

theorem s_PrimitiveNames_ok (q : List (List UInt8)) (hF : s_PrimitiveNames = some q) : FC Tryd.prog 57 [] [] 3 (fun x _ => x = .psl 1 1 (q.map (cStr.enc 1))) := by
  refine FC.of_le ?_
  refine fc_body tabOK Tryd.func57 rfl Tryd.ntmps57 rfl rfl rfl ?_
  unfold s_PrimitiveNames at hF
  refine at_seq ?_
  refine at_region ?_
  refine sxk 1 tabOK rfl ?_
  refine aops_nil ?_
  refine at_seq ?_
  refine at_region ?_
  refine sc_slit cStr (l := 0) ([([43] : List UInt8), ([45] : List UInt8), ([42] : List UInt8), ([61] : List UInt8), ([60] : List UInt8), ([99, 111, 110, 115] : List UInt8), ([99, 97, 114] : List UInt8), ([99, 100, 114] : List UInt8), ([110, 117, 108, 108, 63] : List UInt8), ([112, 97, 105, 114, 63] : List UInt8), ([110, 117, 109, 98, 101, 114, 63] : List UInt8), ([101, 113, 63] : List UInt8), ([110, 111, 116] : List UInt8), ([100, 105, 115, 112, 108, 97, 121] : List UInt8)] : List (List UInt8)) tabOK rfl rfl rfl rfl rfl rfl rfl ?_
  refine sxk 1 tabOK rfl ?_
  refine aops_nil ?_
  refine at_le (le_freeze 0 rfl rfl (by simp) rfl) ?_
  refine at_ret ?_
  obtain rfl := Option.some.inj hF
  refine ret_le rfl ?_
  exact (vle_refl _)

theorem s_l8Value_ok (x_1 : PVal) (pairs : Int) (q : Bool) (hF : s_l8Value x_1 pairs = some q) : FC Tryd.prog 39 [.agg (cVal.row 0 x_1), .int .i64 pairs] [] 3 (fun x _ => x = .bool q) := by
  refine FC.of_le ?_
  refine fc_body tabOK Tryd.func39 rfl Tryd.ntmps39 rfl rfl rfl ?_
  unfold s_l8Value at hF
  refine at_seq ?_
  refine at_region ?_
  refine sxk 2 tabOK rfl ?_
  refine aops_nil ?_
  refine at_seq ?_
  refine at_seq ?_
  refine at_region ?_
  refine sxk 2 tabOK rfl ?_
  refine aops_nil ?_
  refine at_block ?_
  refine at_seq ?_
  refine at_seq ?_
  refine at_region ?_
  refine sxk 2 tabOK rfl ?_
  refine aops_nil ?_
  refine ct_if hF rfl (fun hc hF => ?_) (fun hc hF => ?_)
  · refine at_skip ?_
    refine at_true rfl ?_
    refine at_seq ?_
    refine at_keep [2] rfl ?_
    refine at_region ?_
    refine sxk 4 tabOK rfl ?_
    refine ops_if (g := 13) hF rfl (fun hc hF => ?_) (fun hc hF => ?_)
    · refine sxk 5 tabOK rfl ?_
      refine aops_nil ?_
      refine at_ret ?_
      refine bk_r ?_
      refine tk_r ?_
      obtain rfl := Option.some.inj hF
      refine ret_le rfl ?_
      exact (vle_refl _)
    · refine sxk 5 tabOK rfl ?_
      refine aops_nil ?_
      refine at_ret ?_
      refine bk_r ?_
      refine tk_r ?_
      obtain rfl := Option.some.inj hF
      refine ret_le rfl ?_
      exact (vle_refl _)
  · refine at_region ?_
    refine sxk 2 tabOK rfl ?_
    refine aops_nil ?_
    refine ct_if hF rfl (fun hc hF => ?_) (fun hc hF => ?_)
    · refine at_seq ?_
      refine at_keep [2] rfl ?_
      refine at_region ?_
      refine sxk 4 tabOK rfl ?_
      refine ops_if (g := 13) hF rfl (fun hc hF => ?_) (fun hc hF => ?_)
      · refine sxk 5 tabOK rfl ?_
        refine aops_nil ?_
        refine at_ret ?_
        refine bk_r ?_
        refine tk_r ?_
        obtain rfl := Option.some.inj hF
        refine ret_le rfl ?_
        exact (vle_refl _)
      · refine sxk 5 tabOK rfl ?_
        refine aops_nil ?_
        refine at_ret ?_
        refine bk_r ?_
        refine tk_r ?_
        obtain rfl := Option.some.inj hF
        refine ret_le rfl ?_
        exact (vle_refl _)
    · refine at_seq ?_
      refine at_region ?_
      refine sxk 2 tabOK rfl ?_
      refine aops_nil ?_
      refine ct_if hF rfl (fun hc hF => ?_) (fun hc hF => ?_)
      · refine at_seq ?_
        refine at_keep [2] rfl ?_
        refine at_region ?_
        refine sxk 2 tabOK rfl ?_
        obtain ⟨x3, hx3, hF⟩ := bnd_some hF
        refine call_eq (s_l1In_ok x_1.number 0 1 x3 hx3) rfl ((rlL_cons (rfl) (rlL_cons (rfl) (rlL_cons (rfl) rlL_nil)))) rfl rfl ?_
        refine sxk 1 tabOK rfl ?_
        refine ops_ifb (g := 23) hF rfl (fun hc hF => ?_) (fun hc hF => ?_)
        · refine sxk 5 tabOK rfl ?_
          refine aops_nil ?_
          refine at_ret ?_
          refine bk_r ?_
          refine tk_r ?_
          obtain rfl := Option.some.inj hF
          refine ret_le rfl ?_
          exact (vle_refl _)
        · refine sxk 5 tabOK rfl ?_
          refine aops_nil ?_
          refine at_ret ?_
          refine bk_r ?_
          refine tk_r ?_
          obtain rfl := Option.some.inj hF
          refine ret_le rfl ?_
          exact (vle_refl _)
      · refine at_seq ?_
        refine at_keep [1, 2, 6] rfl ?_
        refine at_region ?_
        refine sxk 2 tabOK rfl ?_
        refine aops_nil ?_
        refine ct_if hF rfl (fun hc hF => ?_) (fun hc hF => ?_)
        · refine at_seq ?_
          refine at_region ?_
          refine sxk 2 tabOK rfl ?_
          obtain ⟨x3, hx3, hF⟩ := bnd_some hF
          refine call_eq (s_l1In_ok x_1.number (-999999999) 999999999 x3 hx3) rfl ((rlL_cons (rfl) (rlL_cons (rfl) (rlL_cons (rfl) rlL_nil)))) rfl rfl ?_
          refine sxk 1 tabOK rfl ?_
          refine ops_ifb (g := 33) hF rfl (fun hc hF => ?_) (fun hc hF => ?_)
          · refine sxk 5 tabOK rfl ?_
            refine aops_nil ?_
            refine at_ret ?_
            refine bk_r ?_
            refine tk_r ?_
            obtain rfl := Option.some.inj hF
            refine ret_le rfl ?_
            exact (vle_refl _)
          · refine sxk 5 tabOK rfl ?_
            refine aops_nil ?_
            refine at_ret ?_
            refine bk_r ?_
            refine tk_r ?_
            obtain rfl := Option.some.inj hF
            refine ret_le rfl ?_
            exact (vle_refl _)
        · refine at_seq ?_
          refine at_region ?_
          refine sxk 2 tabOK rfl ?_
          refine aops_nil ?_
          refine ct_if hF rfl (fun hc hF => ?_) (fun hc hF => ?_)
          · refine at_seq ?_
            refine at_region ?_
            refine sxk 4 tabOK rfl ?_
            refine ops_if (g := 43) hF rfl (fun hc hF => ?_) (fun hc hF => ?_)
            · refine sxk 2 tabOK rfl ?_
              obtain ⟨x3, hx3, hF⟩ := bnd_some hF
              refine call_eq (s_IsSymbol_ok x_1.text x3 hx3) rfl ((rlL_cons (rfl) rlL_nil)) rfl rfl ?_
              refine sxk 2 tabOK rfl ?_
              refine aops_nil ?_
              refine at_ret ?_
              refine bk_r ?_
              refine tk_r ?_
              obtain rfl := Option.some.inj hF
              refine ret_le rfl ?_
              exact (vle_refl _)
            · refine sxk 5 tabOK rfl ?_
              refine aops_nil ?_
              refine at_ret ?_
              refine bk_r ?_
              refine tk_r ?_
              obtain rfl := Option.some.inj hF
              refine ret_le rfl ?_
              exact (vle_refl _)
          · refine at_seq ?_
            refine at_region ?_
            refine sxk 2 tabOK rfl ?_
            refine aops_nil ?_
            refine ct_if hF rfl (fun hc hF => ?_) (fun hc hF => ?_)
            · refine at_seq ?_
              refine at_keep [2] rfl ?_
              refine at_region ?_
              refine sxk 4 tabOK rfl ?_
              refine ops_if (g := 53) hF rfl (fun hc hF => ?_) (fun hc hF => ?_)
              · refine sxk 2 tabOK rfl ?_
                obtain ⟨x3, hx3, hF⟩ := bnd_some hF
                refine call_eq (s_l1String_ok x_1.text x3 hx3) rfl ((rlL_cons (rfl) rlL_nil)) rfl rfl ?_
                refine sxk 2 tabOK rfl ?_
                refine aops_nil ?_
                refine at_ret ?_
                refine bk_r ?_
                refine tk_r ?_
                obtain rfl := Option.some.inj hF
                refine ret_le rfl ?_
                exact (vle_refl _)
              · refine sxk 5 tabOK rfl ?_
                refine aops_nil ?_
                refine at_ret ?_
                refine bk_r ?_
                refine tk_r ?_
                obtain rfl := Option.some.inj hF
                refine ret_le rfl ?_
                exact (vle_refl _)
            · refine at_seq ?_
              refine at_region ?_
              refine sxk 2 tabOK rfl ?_
              refine aops_nil ?_
              refine ct_if hF rfl (fun hc hF => ?_) (fun hc hF => ?_)
              · refine at_seq ?_
                refine at_keep [2] rfl ?_
                refine at_drawnM (id := 14) 5 (by kernel_rfl) (by kernel_rfl) ?_
                refine nx tabOK rfl ?_
                refine nx tabOK rfl ?_
                obtain ⟨x3, hx3, hF⟩ := bnd_some hF
                refine n_call (s_PrimitiveNames_ok  x3 hx3) rfl (rlL_nil) (cStr.rl_psl (l := 1) (l' := 1) _ x3 rfl) rfl ?_
                refine nv rfl (oc_len cStr tabOK rfl rfl rfl) rfl ?_
                obtain ⟨hb, hF⟩ := chk_some hF
                refine nv rfl (ov_sub tabOK rfl rfl hb) rfl ?_
                refine dn_nil rfl ?_
                obtain ⟨x4, hx4, hF⟩ := bnd_some hF
                refine call_eq (s_l1In_ok x_1.number 0 ((x3.length : Int) - 1) x4 hx4) rfl ((rlL_cons (rfl) (rlL_cons (rfl) (rlL_cons (rfl) rlL_nil)))) rfl rfl ?_
                refine sxk 1 tabOK rfl ?_
                refine ops_ifb (g := 66) hF rfl (fun hc hF => ?_) (fun hc hF => ?_)
                · refine sxk 5 tabOK rfl ?_
                  refine aops_nil ?_
                  refine at_ret ?_
                  refine bk_r ?_
                  refine tk_r ?_
                  obtain rfl := Option.some.inj hF
                  refine ret_le rfl ?_
                  exact (vle_refl _)
                · refine sxk 5 tabOK rfl ?_
                  refine aops_nil ?_
                  refine at_ret ?_
                  refine bk_r ?_
                  refine tk_r ?_
                  obtain rfl := Option.some.inj hF
                  refine ret_le rfl ?_
                  exact (vle_refl _)
              · refine at_seq ?_
                refine at_keep [1, 2, 6] rfl ?_
                refine at_region ?_
                refine sxk 2 tabOK rfl ?_
                refine aops_nil ?_
                refine ct_if hF rfl (fun hc hF => ?_) (fun hc hF => ?_)
                · refine at_seq ?_
                  refine at_region ?_
                  refine sxk 3 tabOK rfl ?_
                  obtain ⟨hb, hF⟩ := chk_some hF
                  refine s_sub tabOK rfl rfl rfl hb rfl ?_
                  obtain ⟨x3, hx3, hF⟩ := bnd_some hF
                  refine call_eq (s_l1In_ok x_1.number 0 (pairs - 1) x3 hx3) rfl ((rlL_cons (rfl) (rlL_cons (rfl) (rlL_cons (rfl) rlL_nil)))) rfl rfl ?_
                  refine sxk 1 tabOK rfl ?_
                  refine ops_ifb (g := 78) hF rfl (fun hc hF => ?_) (fun hc hF => ?_)
                  · refine sxk 5 tabOK rfl ?_
                    refine aops_nil ?_
                    refine at_ret ?_
                    refine bk_r ?_
                    refine tk_r ?_
                    obtain rfl := Option.some.inj hF
                    refine ret_le rfl ?_
                    exact (vle_refl _)
                  · refine sxk 5 tabOK rfl ?_
                    refine aops_nil ?_
                    refine at_ret ?_
                    refine bk_r ?_
                    refine tk_r ?_
                    obtain rfl := Option.some.inj hF
                    refine ret_le rfl ?_
                    exact (vle_refl _)
                · refine at_seq ?_
                  refine at_seq ?_
                  refine at_region ?_
                  refine sxk 2 tabOK rfl ?_
                  refine aops_nil ?_
                  refine ct_if hF rfl (fun hc hF => ?_) (fun hc hF => ?_)
                  · refine at_skip ?_
                    refine at_true rfl ?_
                    refine at_seq ?_
                    refine at_region ?_
                    refine sxk 2 tabOK rfl ?_
                    obtain ⟨x3, hx3, hF⟩ := bnd_some hF
                    refine call_eq (s_l1In_ok x_1.number 0 2000 x3 hx3) rfl ((rlL_cons (rfl) (rlL_cons (rfl) (rlL_cons (rfl) rlL_nil)))) rfl rfl ?_
                    refine sxk 1 tabOK rfl ?_
                    refine ops_ifb (g := 89) hF rfl (fun hc hF => ?_) (fun hc hF => ?_)
                    · refine sxk 5 tabOK rfl ?_
                      refine aops_nil ?_
                      refine at_ret ?_
                      refine bk_r ?_
                      refine tk_r ?_
                      obtain rfl := Option.some.inj hF
                      refine ret_le rfl ?_
                      exact (vle_refl _)
                    · refine sxk 5 tabOK rfl ?_
                      refine aops_nil ?_
                      refine at_ret ?_
                      refine bk_r ?_
                      refine tk_r ?_
                      obtain rfl := Option.some.inj hF
                      refine ret_le rfl ?_
                      exact (vle_refl _)
                  · refine at_region ?_
                    refine sxk 2 tabOK rfl ?_
                    refine aops_nil ?_
                    refine ct_if hF rfl (fun hc hF => ?_) (fun hc hF => ?_)
                    · refine at_seq ?_
                      refine at_keep [2] rfl ?_
                      refine at_region ?_
                      refine sxk 2 tabOK rfl ?_
                      obtain ⟨x3, hx3, hF⟩ := bnd_some hF
                      refine call_eq (s_l1In_ok x_1.number 0 2000 x3 hx3) rfl ((rlL_cons (rfl) (rlL_cons (rfl) (rlL_cons (rfl) rlL_nil)))) rfl rfl ?_
                      refine sxk 1 tabOK rfl ?_
                      refine ops_ifb (g := 89) hF rfl (fun hc hF => ?_) (fun hc hF => ?_)
                      · refine sxk 5 tabOK rfl ?_
                        refine aops_nil ?_
                        refine at_ret ?_
                        refine bk_r ?_
                        refine tk_r ?_
                        obtain rfl := Option.some.inj hF
                        refine ret_le rfl ?_
                        exact (vle_refl _)
                      · refine sxk 5 tabOK rfl ?_
                        refine aops_nil ?_
                        refine at_ret ?_
                        refine bk_r ?_
                        refine tk_r ?_
                        obtain rfl := Option.some.inj hF
                        refine ret_le rfl ?_
                        exact (vle_refl _)
                    · refine at_skip ?_
                      refine bk_n ?_
                      refine at_seq ?_
                      refine at_keep [] rfl ?_
                      refine at_region ?_
                      refine sxk 1 tabOK rfl ?_
                      refine aops_nil ?_
                      refine at_ret ?_
                      obtain rfl := Option.some.inj hF
                      refine ret_le rfl ?_
                      exact (vle_refl _)

theorem s_ArePairs_ok (pairs : List PPair) (q : Bool) (hF : s_ArePairs pairs = some q) : FC Tryd.prog 38 [.psl 0 6 (pairs.map (cPair.enc 0))] [] 3 (fun x _ => x = .bool q) := by
  refine FC.of_le ?_
  refine fc_body tabOK Tryd.func38 rfl Tryd.ntmps38 rfl rfl rfl ?_
  unfold s_ArePairs at hF
  refine at_seq ?_
  refine at_region ?_
  refine sxk 1 tabOK rfl ?_
  refine aops_nil ?_
  refine at_seq ?_
  refine at_seq ?_
  refine at_region ?_
  refine sxk 1 tabOK rfl ?_
  refine sv rfl (oc_len cPair tabOK rfl rfl rfl) rfl ?_
  refine sxk 1 tabOK rfl ?_
  refine aops_nil ?_
  refine at_block ?_
  refine cl_loop (σ := Int) (fun x2 => ⟨[(0, .psl 0 6 (pairs.map (cPair.enc 0))), (5, .psl 0 6 (pairs.map (cPair.enc 0))), (6, .int .i64 (pairs.length : Int)), (7, .int .i64 x2)], [], 3, 28, []⟩) (s_ArePairs_L1 pairs) LF 0 hF (le_down (down_all (ee_cons rfl rfl (cPair.ok_psl _ rfl) (ee_cons rfl rfl (cPair.ok_psl _ rfl) (ee_cons rfl rfl rfl (ee_cons rfl rfl rfl ee_nil)))) he_nil rfl rfl rfl rfl)) ?_
  rintro lk_ x2 hF
  refine at_eq (s' := ⟨[(0, .psl 0 6 (pairs.map (cPair.enc 0))), (5, .psl 0 6 (pairs.map (cPair.enc 0))), (6, .int .i64 (pairs.length : Int)), (7, .int .i64 x2)], [], 3, 28, []⟩) rfl ?_
  replace hF : s_ArePairs_L1b pairs (itr (s_ArePairs_L1 pairs) lk_) x2 = some q := hF
  unfold s_ArePairs_L1b at hF
  generalize itr (s_ArePairs_L1 pairs) lk_ = go3 at hF ⊢
  refine at_seq ?_
  refine at_region ?_
  refine sxk 1 tabOK rfl ?_
  refine aops_nil ?_
  refine at_seq ?_
  refine ct_if hF rfl (fun hc hF => ?_) (fun hc hF => ?_)
  · refine at_skip ?_
    refine at_seq ?_
    refine at_block ?_
    refine at_seq ?_
    refine at_region ?_
    refine sxk 1 tabOK rfl ?_
    obtain ⟨x4, hn_x4, hF⟩ := bnd_some hF
    refine sv rfl (oc_addr cPair hn_x4 tabOK rfl rfl rfl rfl) rfl ?_
    refine sxk 4 tabOK rfl ?_
    refine aops_nil ?_
    refine at_seq ?_
    refine at_region ?_
    refine sxk 3 tabOK rfl ?_
    obtain ⟨x5, hx5, hF⟩ := bnd_some hF
    refine call_eq (s_l8Value_ok x4.h x2 x5 hx5) rfl ((rlL_cons (cVal.rl_agg (l := 0) (l' := 0) _ x4.h rfl) (rlL_cons (rfl) rlL_nil))) rfl rfl ?_
    refine sxk 2 tabOK rfl ?_
    refine ops_ifnb (g := 17) hF rfl (fun hc hF => ?_) (fun hc hF => ?_)
    · refine sxk 6 tabOK rfl ?_
      refine aops_nil ?_
      refine at_true rfl ?_
      refine at_seq ?_
      refine at_keep [] rfl ?_
      refine at_region ?_
      refine sxk 1 tabOK rfl ?_
      refine aops_nil ?_
      refine at_ret ?_
      refine bk_r ?_
      refine tk_r ?_
      refine ll_r ?_
      refine bk_r ?_
      refine tk_r ?_
      obtain rfl := Option.some.inj hF
      refine ret_le rfl ?_
      exact (vle_refl _)
    · refine sxk 3 tabOK rfl ?_
      obtain ⟨x6, hx6, hF⟩ := bnd_some hF
      refine call_eq (s_l8Value_ok x4.t x2 x6 hx6) rfl ((rlL_cons (cVal.rl_agg (l := 0) (l' := 0) _ x4.t rfl) (rlL_cons (rfl) rlL_nil))) rfl rfl ?_
      refine sxk 2 tabOK rfl ?_
      refine aops_nil ?_
      refine ct_bn hF rfl (fun hc hF => ?_) (fun hc hF => ?_)
      · refine at_seq ?_
        refine at_keep [] rfl ?_
        refine at_region ?_
        refine sxk 1 tabOK rfl ?_
        refine aops_nil ?_
        refine at_ret ?_
        refine bk_r ?_
        refine tk_r ?_
        refine ll_r ?_
        refine bk_r ?_
        refine tk_r ?_
        obtain rfl := Option.some.inj hF
        refine ret_le rfl ?_
        exact (vle_refl _)
      · refine at_skip ?_
        refine bk_n ?_
        refine at_keep [0, 5, 6, 7, 18, 19, 20, 21, 22] rfl ?_
        refine at_region ?_
        obtain ⟨hb, hF⟩ := chk_some hF
        refine s_add tabOK rfl rfl rfl hb rfl ?_
        refine sxk 1 tabOK rfl ?_
        refine aops_nil ?_
        exact arr_loop ⟨(x2 + 1), hF, (le_down (down_all (ee_cons rfl rfl (cPair.ok_psl _ rfl) (ee_cons rfl rfl (cPair.ok_psl _ rfl) (ee_cons rfl rfl rfl (ee_cons rfl rfl rfl ee_nil)))) he_nil rfl rfl rfl rfl))⟩
  · refine at_exit ?_
    refine tk_x ?_
    refine ll_x ?_
    refine bk_hit ?_
    refine at_seq ?_
    refine at_region ?_
    refine sxk 1 tabOK rfl ?_
    refine sv rfl (oc_len cPair tabOK rfl rfl rfl) rfl ?_
    refine sxk 2 tabOK rfl ?_
    refine aops_nil ?_
    refine at_ret ?_
    obtain rfl := Option.some.inj hF
    refine ret_le rfl ?_
    exact (vle_refl _)

theorem s_IsValue_ok (x_1 : PVal) (pairs : List PPair) (q : Bool) (hF : s_IsValue x_1 pairs = some q) : FC Tryd.prog 22 [.agg (cVal.row 0 x_1), .psl 0 6 (pairs.map (cPair.enc 0))] [] 3 (fun x _ => x = .bool q) := by
  refine FC.of_le ?_
  refine fc_body tabOK Tryd.func22 rfl Tryd.ntmps22 rfl rfl rfl ?_
  unfold s_IsValue at hF
  refine at_seq ?_
  refine at_region ?_
  refine sxk 2 tabOK rfl ?_
  refine aops_nil ?_
  refine at_seq ?_
  refine at_region ?_
  refine sxk 1 tabOK rfl ?_
  obtain ⟨x3, hx3, hF⟩ := bnd_some hF
  refine call_eq (s_ArePairs_ok pairs x3 hx3) rfl ((rlL_cons (cPair.rl_psl (l := 0) (l' := 0) _ pairs rfl) rlL_nil)) rfl rfl ?_
  refine sxk 1 tabOK rfl ?_
  refine ops_ifb (g := 7) hF rfl (fun hc hF => ?_) (fun hc hF => ?_)
  · refine sxk 2 tabOK rfl ?_
    refine sv rfl (oc_len cPair tabOK rfl rfl rfl) rfl ?_
    obtain ⟨x4, hx4, hF⟩ := bnd_some hF
    refine call_eq (s_l8Value_ok x_1 (pairs.length : Int) x4 hx4) rfl ((rlL_cons (cVal.rl_agg (l := 0) (l' := 0) _ x_1 rfl) (rlL_cons (rfl) rlL_nil))) rfl rfl ?_
    refine sxk 2 tabOK rfl ?_
    refine aops_nil ?_
    refine at_ret ?_
    obtain rfl := Option.some.inj hF
    refine ret_le rfl ?_
    exact (vle_refl _)
  · refine sxk 6 tabOK rfl ?_
    refine aops_nil ?_
    refine at_ret ?_
    obtain rfl := Option.some.inj hF
    refine ret_le rfl ?_
    exact (vle_refl _)

theorem s_FormatNumber_ok (x_1 : Int) (q : List UInt8) (hF : s_FormatNumber x_1 = some q) : FC Tryd.prog 32 [.int .i64 x_1] [] 3 (fun x _ => x = .str q) := by
  refine FC.of_le ?_
  refine fc_body tabOK Tryd.func32 rfl Tryd.ntmps32 rfl rfl rfl ?_
  unfold s_FormatNumber at hF
  refine at_seq ?_
  refine at_region ?_
  refine sxk 1 tabOK rfl ?_
  refine aops_nil ?_
  refine at_seq ?_
  refine at_seq ?_
  refine at_region ?_
  refine sxk 2 tabOK rfl ?_
  refine aops_nil ?_
  refine ct_if hF rfl (fun hc hF => ?_) (fun hc hF => ?_)
  · refine at_seq ?_
    refine at_region ?_
    refine sxk 1 tabOK rfl ?_
    refine aops_nil ?_
    refine at_ret ?_
    refine tk_r ?_
    obtain rfl := Option.some.inj hF
    refine ret_le rfl ?_
    exact (vle_refl _)
  · refine at_skip ?_
    refine at_seq ?_
    refine at_region ?_
    refine sxk 1 tabOK rfl ?_
    refine aops_nil ?_
    refine at_seq ?_
    refine at_seq ?_
    refine at_region ?_
    refine sxk 2 tabOK rfl ?_
    refine aops_nil ?_
    refine at_block ?_
    refine cl_loop (σ := List UInt8 × Int) (fun v => match v with | (out2, x3) => ⟨[(0, .int .i64 x_1), (3, .str out2), (4, .int .i64 x3)], [], 3, 31, []⟩) (s_FormatNumber_L1 x_1) LF (([] : List UInt8), x_1) hF (le_down (down_all (ee_cons rfl rfl rfl (ee_cons rfl rfl rfl (ee_cons rfl rfl rfl ee_nil))) he_nil rfl rfl rfl rfl)) ?_
    rintro lk_ ⟨out2, x3⟩ hF
    refine at_eq (s' := ⟨[(0, .int .i64 x_1), (3, .str out2), (4, .int .i64 x3)], [], 3, 31, []⟩) rfl ?_
    replace hF : s_FormatNumber_L1b x_1 (itr (s_FormatNumber_L1 x_1) lk_) out2 x3 = some q := hF
    unfold s_FormatNumber_L1b at hF
    generalize itr (s_FormatNumber_L1 x_1) lk_ = go4 at hF ⊢
    refine at_seq ?_
    refine at_seq ?_
    refine at_region ?_
    refine sxk 2 tabOK rfl ?_
    refine aops_nil ?_
    refine ct_ifn hF rfl (fun hc hF => ?_) (fun hc hF => ?_)
    · refine at_skip ?_
      refine at_seq ?_
      refine at_block ?_
      refine at_seq ?_
      refine at_region ?_
      refine sxk 1 tabOK rfl ?_
      obtain ⟨hb, hF⟩ := chk_some hF
      refine sv rfl (oc_trem rfl rfl hb) rfl ?_
      refine sxk 1 tabOK rfl ?_
      refine aops_nil ?_
      refine at_seq ?_
      refine at_seq ?_
      refine at_region ?_
      refine sxk 2 tabOK rfl ?_
      refine aops_nil ?_
      refine cl_midn (σ := Int) (fun d5 => ⟨[(0, .int .i64 x_1), (3, .str out2), (4, .int .i64 x3), (5, .int .i64 d5)], [], 3, 31, []⟩) (fun d5 => s_FormatNumber_J2 out2 x3 go4 d5 = some q) ?_ ?_
      · refine ct_if hF rfl (fun hc hF => ?_) (fun hc hF => ?_)
        · refine at_region ?_
          refine sxk 1 tabOK rfl ?_
          obtain ⟨hb, hF⟩ := chk_some hF
          refine sv rfl (oc_neg rfl tabOK hb) rfl ?_
          refine sxk 1 tabOK rfl ?_
          refine aops_nil ?_
          exact arr_cut ⟨(-(Int.tmod x3 10)), hF, (le_down (down_all (ee_cons rfl rfl rfl (ee_cons rfl rfl rfl (ee_cons rfl rfl rfl (ee_cons rfl rfl rfl ee_nil)))) he_nil rfl rfl rfl rfl))⟩
        · refine at_skip ?_
          exact arr_cut ⟨(Int.tmod x3 10), hF, (le_down (down_all (ee_cons rfl rfl rfl (ee_cons rfl rfl rfl (ee_cons rfl rfl rfl (ee_cons rfl rfl rfl ee_nil)))) he_nil rfl rfl rfl rfl))⟩
      · rintro d5 hF
        refine at_eq (s' := ⟨[(0, .int .i64 x_1), (3, .str out2), (4, .int .i64 x3), (5, .int .i64 d5)], [], 3, 31, []⟩) rfl ?_
        replace hF : s_FormatNumber_J2 out2 x3 go4 d5 = some q := hF
        unfold s_FormatNumber_J2 at hF
        refine at_region ?_
        refine sxk 1 tabOK rfl ?_
        obtain ⟨hb, hF⟩ := chk_some hF
        refine s_add tabOK rfl rfl rfl hb rfl ?_
        obtain ⟨hb, hF⟩ := chk_some hF
        refine sv rfl (ov_toByte hb tabOK rfl rfl rfl) rfl ?_
        refine sc_slit cByte (l := 0) ([(UInt8.ofNat (48 + d5).toNat)] : List UInt8) tabOK rfl rfl rfl rfl rfl rfl rfl ?_
        refine sv rfl (ov_bytesH tabOK rfl rfl rfl rfl) rfl ?_
        refine sxk 1 tabOK rfl ?_
        obtain ⟨hb, hF⟩ := chk_some hF
        refine sv rfl (ov_cat rfl rfl hb) rfl ?_
        refine sxk 1 tabOK rfl ?_
        refine aops_nil ?_
        refine bk_n ?_
        refine at_keep [0, 3, 4] rfl ?_
        refine at_region ?_
        refine sxk 1 tabOK rfl ?_
        obtain ⟨hb, hF⟩ := chk_some hF
        refine sv rfl (oc_tquo rfl rfl hb) rfl ?_
        refine sxk 1 tabOK rfl ?_
        refine aops_nil ?_
        exact arr_loop ⟨((([(UInt8.ofNat (48 + d5).toNat)] : List UInt8) ++ out2), (Int.tdiv x3 10)), hF, (le_down (down_all (ee_cons rfl rfl rfl (ee_cons rfl rfl rfl (ee_cons rfl rfl rfl ee_nil))) he_nil rfl rfl rfl rfl))⟩
    · refine at_exit ?_
      refine tk_x ?_
      refine ll_x ?_
      refine bk_hit ?_
      refine at_seq ?_
      refine at_seq ?_
      refine at_region ?_
      refine sxk 2 tabOK rfl ?_
      refine aops_nil ?_
      refine ct_if hF rfl (fun hc hF => ?_) (fun hc hF => ?_)
      · refine at_region ?_
        refine sxk 1 tabOK rfl ?_
        obtain ⟨hb, hF⟩ := chk_some hF
        refine sv rfl (ov_cat rfl rfl hb) rfl ?_
        refine sxk 1 tabOK rfl ?_
        refine aops_nil ?_
        refine at_seq ?_
        refine at_keep [3] rfl ?_
        refine at_region ?_
        refine sxk 2 tabOK rfl ?_
        refine aops_nil ?_
        refine at_ret ?_
        obtain rfl := Option.some.inj hF
        refine ret_le rfl ?_
        exact (vle_refl _)
      · refine at_skip ?_
        refine at_seq ?_
        refine at_region ?_
        refine sxk 2 tabOK rfl ?_
        refine aops_nil ?_
        refine at_ret ?_
        obtain rfl := Option.some.inj hF
        refine ret_le rfl ?_
        exact (vle_refl _)

theorem s_l8Print_bok (s_l8Print : PVal → List PPair → List UInt8 → Option (List UInt8)) (h_s_l8Print : ∀ (x_1 : PVal) (pairs : List PPair) (out : List UInt8) (q : List UInt8), s_l8Print x_1 pairs out = some q → FC Tryd.prog 40 [.agg (cVal.row 0 x_1), .psl 0 6 (pairs.map (cPair.enc 0)), .str out] [] 3 (fun x _ => x = .str q)) (x_1 : PVal) (pairs : List PPair) (out : List UInt8) (q : List UInt8) (hF : s_l8Print_b s_l8Print x_1 pairs out = some q) : FC Tryd.prog 40 [.agg (cVal.row 0 x_1), .psl 0 6 (pairs.map (cPair.enc 0)), .str out] [] 3 (fun x _ => x = .str q) := by
  refine FC.of_le ?_
  refine fc_body tabOK Tryd.func40 rfl Tryd.ntmps40 rfl rfl rfl ?_
  unfold s_l8Print_b at hF
  refine at_seq ?_
  refine at_region ?_
  refine sxk 2 tabOK rfl ?_
  refine aops_nil ?_
  refine at_seq ?_
  refine at_seq ?_
  refine at_region ?_
  refine sxk 3 tabOK rfl ?_
  refine aops_nil ?_
  refine ct_if hF rfl (fun hc hF => ?_) (fun hc hF => ?_)
  · refine at_seq ?_
    refine at_keep [2] rfl ?_
    refine at_region ?_
    refine sxk 2 tabOK rfl ?_
    refine aops_nil ?_
    refine at_ret ?_
    refine tk_r ?_
    obtain rfl := Option.some.inj hF
    refine ret_le rfl ?_
    exact (vle_refl _)
  · refine at_skip ?_
    refine at_seq ?_
    refine at_seq ?_
    refine at_region ?_
    refine sxk 2 tabOK rfl ?_
    refine aops_nil ?_
    refine at_block ?_
    refine at_seq ?_
    refine at_region ?_
    refine sxk 2 tabOK rfl ?_
    refine aops_nil ?_
    refine ct_if hF rfl (fun hc hF => ?_) (fun hc hF => ?_)
    · refine at_seq ?_
      refine at_keep [2] rfl ?_
      refine at_region ?_
      refine sxk 1 tabOK rfl ?_
      obtain ⟨hb, hF⟩ := chk_some hF
      refine sv rfl (ov_cat rfl rfl hb) rfl ?_
      refine sxk 1 tabOK rfl ?_
      refine aops_nil ?_
      refine at_ret ?_
      refine bk_r ?_
      refine tk_r ?_
      obtain rfl := Option.some.inj hF
      refine ret_le rfl ?_
      exact (vle_refl _)
    · refine at_seq ?_
      refine at_keep [1, 2, 3, 13] rfl ?_
      refine at_region ?_
      refine sxk 2 tabOK rfl ?_
      refine aops_nil ?_
      refine ct_if hF rfl (fun hc hF => ?_) (fun hc hF => ?_)
      · refine at_seq ?_
        refine at_region ?_
        refine sxk 1 tabOK rfl ?_
        obtain ⟨hb, hF⟩ := chk_some hF
        refine sv rfl (ov_cat rfl rfl hb) rfl ?_
        refine sxk 1 tabOK rfl ?_
        refine aops_nil ?_
        refine at_ret ?_
        refine bk_r ?_
        refine tk_r ?_
        obtain rfl := Option.some.inj hF
        refine ret_le rfl ?_
        exact (vle_refl _)
      · refine at_seq ?_
        refine at_region ?_
        refine sxk 2 tabOK rfl ?_
        refine aops_nil ?_
        refine ct_if hF rfl (fun hc hF => ?_) (fun hc hF => ?_)
        · refine at_seq ?_
          refine at_region ?_
          refine sxk 1 tabOK rfl ?_
          refine sc_slit cStr (l := 0) ([([35, 102] : List UInt8), ([35, 116] : List UInt8)] : List (List UInt8)) tabOK rfl rfl rfl rfl rfl rfl rfl ?_
          refine sxk 2 tabOK rfl ?_
          obtain ⟨x5, hn_x5, hF⟩ := bnd_some hF
          refine sv rfl (oc_haddr cStr hn_x5 tabOK rfl rfl rfl rfl) rfl ?_
          refine sv rfl (oc_load cStr hn_x5 tabOK rfl rfl rfl rfl) rfl ?_
          obtain ⟨hb, hF⟩ := chk_some hF
          refine sv rfl (ov_cat rfl rfl hb) rfl ?_
          refine sxk 1 tabOK rfl ?_
          refine aops_nil ?_
          refine at_ret ?_
          refine bk_r ?_
          refine tk_r ?_
          obtain rfl := Option.some.inj hF
          refine ret_le rfl ?_
          exact (vle_refl _)
        · refine at_seq ?_
          refine at_region ?_
          refine sxk 2 tabOK rfl ?_
          refine aops_nil ?_
          refine ct_if hF rfl (fun hc hF => ?_) (fun hc hF => ?_)
          · refine at_seq ?_
            refine at_keep [2, 3] rfl ?_
            refine at_region ?_
            refine sxk 3 tabOK rfl ?_
            obtain ⟨x5, hx5, hF⟩ := bnd_some hF
            refine call_eq (s_FormatNumber_ok x_1.number x5 hx5) rfl ((rlL_cons (rfl) rlL_nil)) rfl rfl ?_
            obtain ⟨hb, hF⟩ := chk_some hF
            refine sv rfl (ov_cat rfl rfl hb) rfl ?_
            refine sxk 1 tabOK rfl ?_
            refine aops_nil ?_
            refine at_ret ?_
            refine bk_r ?_
            refine tk_r ?_
            obtain rfl := Option.some.inj hF
            refine ret_le rfl ?_
            exact (vle_refl _)
          · refine at_seq ?_
            refine at_region ?_
            refine sxk 2 tabOK rfl ?_
            refine aops_nil ?_
            refine ct_if hF rfl (fun hc hF => ?_) (fun hc hF => ?_)
            · refine at_seq ?_
              refine at_keep [2, 3] rfl ?_
              refine at_region ?_
              refine sxk 3 tabOK rfl ?_
              obtain ⟨hb, hF⟩ := chk_some hF
              refine sv rfl (ov_cat rfl rfl hb) rfl ?_
              refine sxk 1 tabOK rfl ?_
              refine aops_nil ?_
              refine at_ret ?_
              refine bk_r ?_
              refine tk_r ?_
              obtain rfl := Option.some.inj hF
              refine ret_le rfl ?_
              exact (vle_refl _)
            · refine at_seq ?_
              refine at_keep [1, 2, 3, 13] rfl ?_
              refine at_region ?_
              refine sxk 2 tabOK rfl ?_
              refine aops_nil ?_
              refine ct_if hF rfl (fun hc hF => ?_) (fun hc hF => ?_)
              · refine at_seq ?_
                refine at_region ?_
                refine sxk 1 tabOK rfl ?_
                obtain ⟨hb, hF⟩ := chk_some hF
                refine sv rfl (ov_cat rfl rfl hb) rfl ?_
                refine sxk 2 tabOK rfl ?_
                obtain ⟨hb, hF⟩ := chk_some hF
                refine sv rfl (ov_cat rfl rfl hb) rfl ?_
                obtain ⟨hb, hF⟩ := chk_some hF
                refine sv rfl (ov_cat rfl rfl hb) rfl ?_
                refine sxk 1 tabOK rfl ?_
                refine aops_nil ?_
                refine at_ret ?_
                refine bk_r ?_
                refine tk_r ?_
                obtain rfl := Option.some.inj hF
                refine ret_le rfl ?_
                exact (vle_refl _)
              · refine at_seq ?_
                refine at_region ?_
                refine sxk 2 tabOK rfl ?_
                refine aops_nil ?_
                refine ct_if hF rfl (fun hc hF => ?_) (fun hc hF => ?_)
                · refine at_seq ?_
                  refine at_region ?_
                  refine sxk 1 tabOK rfl ?_
                  obtain ⟨hb, hF⟩ := chk_some hF
                  refine sv rfl (ov_cat rfl rfl hb) rfl ?_
                  refine sxk 1 tabOK rfl ?_
                  refine aops_nil ?_
                  refine at_seq ?_
                  refine at_seq ?_
                  refine at_keep [1, 2, 3] rfl ?_
                  refine at_region ?_
                  refine sxk 1 tabOK rfl ?_
                  refine aops_nil ?_
                  refine at_block ?_
                  refine cl_loop (σ := List UInt8 × Int × PVal) (fun v => match v with | (out5, x6, x7) => ⟨[(1, .psl 0 6 (pairs.map (cPair.enc 0))), (2, .str out5), (3, .ptr 3 1 0 0), (7, .int .i64 x6)], [(3, ⟨3, [cVal.row 0 x7]⟩)], 4, 102, []⟩) (s_l8Print_L1 s_l8Print pairs) LF ((out ++ ([40] : List UInt8)), 0, x_1) hF (le_down (down_all (ee_cons rfl rfl (cPair.ok_psl _ rfl) (ee_cons rfl rfl rfl (ee_cons rfl rfl (Nat.le_of_ble_eq_true rfl) (ee_cons rfl rfl rfl ee_nil)))) (he_cons rfl rfl rfl (row_one (cVal.row_ok _ rfl)) he_nil) rfl rfl rfl rfl)) ?_
                  rintro lk_ ⟨out5, x6, x7⟩ hF
                  refine at_eq (s' := ⟨[(1, .psl 0 6 (pairs.map (cPair.enc 0))), (2, .str out5), (3, .ptr 3 1 0 0), (7, .int .i64 x6)], [(3, ⟨3, [cVal.row 0 x7]⟩)], 4, 102, []⟩) rfl ?_
                  replace hF : s_l8Print_L1b s_l8Print pairs (itr (s_l8Print_L1 s_l8Print pairs) lk_) out5 x6 x7 = some q := hF
                  unfold s_l8Print_L1b at hF
                  generalize itr (s_l8Print_L1 s_l8Print pairs) lk_ = go8 at hF ⊢
                  refine at_seq ?_
                  refine at_seq ?_
                  refine cl_midn (σ := Bool) (fun x9 => ⟨[(1, .psl 0 6 (pairs.map (cPair.enc 0))), (2, .str out5), (3, .ptr 3 1 0 0), (7, .int .i64 x6), (63, .bool x9)], [(3, ⟨3, [cVal.row 0 x7]⟩)], 4, 102, []⟩) (fun x9 => s_l8Print_J2 s_l8Print pairs out5 x6 x7 go8 x9 = some q) ?_ ?_
                  · refine at_region ?_
                    refine sxk 4 tabOK rfl ?_
                    refine ops_if (g := 59) hF rfl (fun hc hF => ?_) (fun hc hF => ?_)
                    · refine sxk 4 tabOK rfl ?_
                      refine aops_nil ?_
                      exact arr_cut ⟨(decide ((out5.length : Int) ≤ 120)), hF, (le_down (down_all (ee_cons rfl rfl (cPair.ok_psl _ rfl) (ee_cons rfl rfl rfl (ee_cons rfl rfl (Nat.le_of_ble_eq_true rfl) (ee_cons rfl rfl rfl (ee_cons rfl rfl rfl ee_nil))))) (he_cons rfl rfl rfl (row_one (cVal.row_ok _ rfl)) he_nil) rfl rfl rfl rfl))⟩
                    · refine sxk 4 tabOK rfl ?_
                      refine aops_nil ?_
                      exact arr_cut ⟨false, hF, (le_down (down_all (ee_cons rfl rfl (cPair.ok_psl _ rfl) (ee_cons rfl rfl rfl (ee_cons rfl rfl (Nat.le_of_ble_eq_true rfl) (ee_cons rfl rfl rfl (ee_cons rfl rfl rfl ee_nil))))) (he_cons rfl rfl rfl (row_one (cVal.row_ok _ rfl)) he_nil) rfl rfl rfl rfl))⟩
                  · rintro x9 hF
                    refine at_eq (s' := ⟨[(1, .psl 0 6 (pairs.map (cPair.enc 0))), (2, .str out5), (3, .ptr 3 1 0 0), (7, .int .i64 x6), (63, .bool x9)], [(3, ⟨3, [cVal.row 0 x7]⟩)], 4, 102, []⟩) rfl ?_
                    replace hF : s_l8Print_J2 s_l8Print pairs out5 x6 x7 go8 x9 = some q := hF
                    unfold s_l8Print_J2 at hF
                    refine ct_b hF rfl (fun hc hF => ?_) (fun hc hF => ?_)
                    · refine at_skip ?_
                      refine at_seq ?_
                      refine at_block ?_
                      refine at_seq ?_
                      refine at_seq ?_
                      refine at_region ?_
                      refine sxk 2 tabOK rfl ?_
                      refine aops_nil ?_
                      refine cl_midn (σ := List UInt8) (fun out10 => ⟨[(1, .psl 0 6 (pairs.map (cPair.enc 0))), (2, .str out10), (3, .ptr 3 1 0 0), (7, .int .i64 x6)], [(3, ⟨3, [cVal.row 0 x7]⟩)], 4, 102, []⟩) (fun out10 => s_l8Print_J3 s_l8Print pairs x6 x7 go8 out10 = some q) ?_ ?_
                      · refine ct_if hF rfl (fun hc hF => ?_) (fun hc hF => ?_)
                        · refine at_region ?_
                          refine sxk 1 tabOK rfl ?_
                          obtain ⟨hb, hF⟩ := chk_some hF
                          refine sv rfl (ov_cat rfl rfl hb) rfl ?_
                          refine sxk 1 tabOK rfl ?_
                          refine aops_nil ?_
                          exact arr_cut ⟨(out5 ++ ([32] : List UInt8)), hF, (le_down (down_all (ee_cons rfl rfl (cPair.ok_psl _ rfl) (ee_cons rfl rfl rfl (ee_cons rfl rfl (Nat.le_of_ble_eq_true rfl) (ee_cons rfl rfl rfl ee_nil)))) (he_cons rfl rfl rfl (row_one (cVal.row_ok _ rfl)) he_nil) rfl rfl rfl rfl))⟩
                        · refine at_skip ?_
                          exact arr_cut ⟨out5, hF, (le_down (down_all (ee_cons rfl rfl (cPair.ok_psl _ rfl) (ee_cons rfl rfl rfl (ee_cons rfl rfl (Nat.le_of_ble_eq_true rfl) (ee_cons rfl rfl rfl ee_nil)))) (he_cons rfl rfl rfl (row_one (cVal.row_ok _ rfl)) he_nil) rfl rfl rfl rfl))⟩
                      · rintro out10 hF
                        refine at_eq (s' := ⟨[(1, .psl 0 6 (pairs.map (cPair.enc 0))), (2, .str out10), (3, .ptr 3 1 0 0), (7, .int .i64 x6)], [(3, ⟨3, [cVal.row 0 x7]⟩)], 4, 102, []⟩) rfl ?_
                        replace hF : s_l8Print_J3 s_l8Print pairs x6 x7 go8 out10 = some q := hF
                        unfold s_l8Print_J3 at hF
                        refine at_seq ?_
                        refine at_region ?_
                        refine sxk 3 tabOK rfl ?_
                        obtain ⟨x11, hn_x11, hF⟩ := bnd_some hF
                        refine sv rfl (oc_addr cPair hn_x11 tabOK rfl rfl rfl rfl) rfl ?_
                        refine sxk 4 tabOK rfl ?_
                        obtain ⟨x12, hx12, hF⟩ := bnd_some hF
                        refine call_eq (h_s_l8Print x11.h pairs out10 x12 hx12) rfl ((rlL_cons (cVal.rl_agg (l := 0) (l' := 0) _ x11.h rfl) (rlL_cons (cPair.rl_psl (l := 0) (l' := 0) _ pairs rfl) (rlL_cons (rfl) rlL_nil)))) rfl rfl ?_
                        refine sxk 1 tabOK rfl ?_
                        refine aops_nil ?_
                        refine at_keep [1, 2, 3, 7] rfl ?_
                        refine at_region ?_
                        refine sxk 3 tabOK rfl ?_
                        obtain ⟨x13, hn_x13, hF⟩ := bnd_some hF
                        refine sv rfl (oc_addr cPair hn_x13 tabOK rfl rfl rfl rfl) rfl ?_
                        refine sxk 3 tabOK rfl ?_
                        refine aops_nil ?_
                        refine bk_n ?_
                        refine at_region ?_
                        refine sxk 1 tabOK rfl ?_
                        obtain ⟨hb, hF⟩ := chk_some hF
                        refine s_add tabOK rfl rfl rfl hb rfl ?_
                        refine sxk 1 tabOK rfl ?_
                        refine aops_nil ?_
                        exact arr_loop ⟨(x12, (x6 + 1), x13.t), hF, (le_down (down_all (ee_cons rfl rfl (cPair.ok_psl _ rfl) (ee_cons rfl rfl rfl (ee_cons rfl rfl (Nat.le_of_ble_eq_true rfl) (ee_cons rfl rfl rfl ee_nil)))) (he_cons rfl rfl rfl (row_one (cVal.row_ok _ rfl)) he_nil) rfl rfl rfl rfl))⟩
                    · refine at_exit ?_
                      refine tk_x ?_
                      refine ll_x ?_
                      refine bk_hit ?_
                      refine at_seq ?_
                      refine at_seq ?_
                      refine cl_midn (σ := Bool) (fun x10 => ⟨[(1, .psl 0 6 (pairs.map (cPair.enc 0))), (2, .str out5), (3, .ptr 3 1 0 0), (92, .bool x10)], [(3, ⟨3, [cVal.row 0 x7]⟩)], 4, 102, []⟩) (fun x10 => s_l8Print_J4 s_l8Print pairs out5 x7 x10 = some q) ?_ ?_
                      · refine at_region ?_
                        refine sxk 4 tabOK rfl ?_
                        refine ops_ifn (g := 88) hF rfl (fun hc hF => ?_) (fun hc hF => ?_)
                        · refine sxk 4 tabOK rfl ?_
                          refine aops_nil ?_
                          exact arr_cut ⟨(decide ((out5.length : Int) ≤ 120)), hF, (le_down (down_all (ee_cons rfl rfl (cPair.ok_psl _ rfl) (ee_cons rfl rfl rfl (ee_cons rfl rfl (Nat.le_of_ble_eq_true rfl) (ee_cons rfl rfl rfl ee_nil)))) (he_cons rfl rfl rfl (row_one (cVal.row_ok _ rfl)) he_nil) rfl rfl rfl rfl))⟩
                        · refine sxk 4 tabOK rfl ?_
                          refine aops_nil ?_
                          exact arr_cut ⟨false, hF, (le_down (down_all (ee_cons rfl rfl (cPair.ok_psl _ rfl) (ee_cons rfl rfl rfl (ee_cons rfl rfl (Nat.le_of_ble_eq_true rfl) (ee_cons rfl rfl rfl ee_nil)))) (he_cons rfl rfl rfl (row_one (cVal.row_ok _ rfl)) he_nil) rfl rfl rfl rfl))⟩
                      · rintro x10 hF
                        refine at_eq (s' := ⟨[(1, .psl 0 6 (pairs.map (cPair.enc 0))), (2, .str out5), (3, .ptr 3 1 0 0), (92, .bool x10)], [(3, ⟨3, [cVal.row 0 x7]⟩)], 4, 102, []⟩) rfl ?_
                        replace hF : s_l8Print_J4 s_l8Print pairs out5 x7 x10 = some q := hF
                        unfold s_l8Print_J4 at hF
                        refine ct_b hF rfl (fun hc hF => ?_) (fun hc hF => ?_)
                        · refine at_region ?_
                          refine sxk 3 tabOK rfl ?_
                          obtain ⟨hb, hF⟩ := chk_some hF
                          refine sv rfl (ov_cat rfl rfl hb) rfl ?_
                          obtain ⟨x11, hx11, hF⟩ := bnd_some hF
                          refine call_eq (h_s_l8Print x7 pairs (out5 ++ ([32, 46, 32] : List UInt8)) x11 hx11) rfl ((rlL_cons (cVal.rl_agg (l := 0) (l' := 0) _ x7 rfl) (rlL_cons (cPair.rl_psl (l := 0) (l' := 0) _ pairs rfl) (rlL_cons (rfl) rlL_nil)))) rfl rfl ?_
                          refine sxk 1 tabOK rfl ?_
                          refine aops_nil ?_
                          refine at_seq ?_
                          refine at_keep [2] rfl ?_
                          refine at_region ?_
                          refine sxk 1 tabOK rfl ?_
                          obtain ⟨hb, hF⟩ := chk_some hF
                          refine sv rfl (ov_cat rfl rfl hb) rfl ?_
                          refine sxk 1 tabOK rfl ?_
                          refine aops_nil ?_
                          refine at_ret ?_
                          refine bk_r ?_
                          refine tk_r ?_
                          obtain rfl := Option.some.inj hF
                          refine ret_le rfl ?_
                          exact (vle_refl _)
                        · refine at_skip ?_
                          refine at_seq ?_
                          refine at_region ?_
                          refine sxk 1 tabOK rfl ?_
                          obtain ⟨hb, hF⟩ := chk_some hF
                          refine sv rfl (ov_cat rfl rfl hb) rfl ?_
                          refine sxk 1 tabOK rfl ?_
                          refine aops_nil ?_
                          refine at_ret ?_
                          refine bk_r ?_
                          refine tk_r ?_
                          obtain rfl := Option.some.inj hF
                          refine ret_le rfl ?_
                          exact (vle_refl _)
                · refine at_skip ?_
                  refine bk_n ?_
                  refine at_seq ?_
                  refine at_keep [2] rfl ?_
                  refine at_region ?_
                  refine sxk 1 tabOK rfl ?_
                  obtain ⟨hb, hF⟩ := chk_some hF
                  refine sv rfl (ov_cat rfl rfl hb) rfl ?_
                  refine sxk 1 tabOK rfl ?_
                  refine aops_nil ?_
                  refine at_ret ?_
                  obtain rfl := Option.some.inj hF
                  refine ret_le rfl ?_
                  exact (vle_refl _)

theorem s_l8Print_all (n : Nat) : (∀ (x_1 : PVal) (pairs : List PPair) (out : List UInt8) (q : List UInt8), s_l8Print n x_1 pairs out = some q → FC Tryd.prog 40 [.agg (cVal.row 0 x_1), .psl 0 6 (pairs.map (cPair.enc 0)), .str out] [] 3 (fun x _ => x = .str q)) := by
  induction n with
  | zero => exact fun _ _ _ q h => by cases h
  | succ n ih => exact fun x_1 pairs out q h => s_l8Print_bok (s_l8Print n) ih x_1 pairs out q h

theorem s_l8Print_ok (n : Nat) (x_1 : PVal) (pairs : List PPair) (out : List UInt8) (q : List UInt8) (hF : s_l8Print n x_1 pairs out = some q) : FC Tryd.prog 40 [.agg (cVal.row 0 x_1), .psl 0 6 (pairs.map (cPair.enc 0)), .str out] [] 3 (fun x _ => x = .str q) := (s_l8Print_all n) x_1 pairs out q hF

theorem s_l8Text_ok (x_1 : PVal) (pairs : List PPair) (q : List UInt8) (hF : s_l8Text x_1 pairs = some q) : FC Tryd.prog 23 [.agg (cVal.row 0 x_1), .psl 0 6 (pairs.map (cPair.enc 0))] [] 3 (fun x _ => x = .str q) := by
  refine FC.of_le ?_
  refine fc_body tabOK Tryd.func23 rfl Tryd.ntmps23 rfl rfl rfl ?_
  unfold s_l8Text at hF
  refine at_seq ?_
  refine at_region ?_
  refine sxk 2 tabOK rfl ?_
  refine aops_nil ?_
  refine at_seq ?_
  refine at_region ?_
  refine sxk 2 tabOK rfl ?_
  obtain ⟨x3, hx3, hF⟩ := bnd_some hF
  refine call_eq (s_l8Print_ok RF x_1 pairs ([] : List UInt8) x3 hx3) rfl ((rlL_cons (cVal.rl_agg (l := 0) (l' := 0) _ x_1 rfl) (rlL_cons (cPair.rl_psl (l := 0) (l' := 0) _ pairs rfl) (rlL_cons (rfl) rlL_nil)))) rfl rfl ?_
  refine sxk 1 tabOK rfl ?_
  refine aops_nil ?_
  refine at_seq ?_
  refine at_seq ?_
  refine at_keep [5] rfl ?_
  refine at_region ?_
  refine sxk 3 tabOK rfl ?_
  refine aops_nil ?_
  refine ct_if hF rfl (fun hc hF => ?_) (fun hc hF => ?_)
  · refine at_seq ?_
    refine at_region ?_
    refine sxk 1 tabOK rfl ?_
    obtain ⟨hb, hF⟩ := chk_some hF
    refine sv rfl (oc_sub_h hb tabOK rfl rfl rfl) rfl ?_
    refine sxk 1 tabOK rfl ?_
    refine aops_nil ?_
    refine at_ret ?_
    refine tk_r ?_
    obtain rfl := Option.some.inj hF
    refine ret_le rfl ?_
    exact (vle_refl _)
  · refine at_skip ?_
    refine at_seq ?_
    refine at_region ?_
    refine sxk 2 tabOK rfl ?_
    refine aops_nil ?_
    refine at_ret ?_
    obtain rfl := Option.some.inj hF
    refine ret_le rfl ?_
    exact (vle_refl _)

theorem s_FormatValue_ok (x_1 : PVal) (pairs : List PPair) (q : List UInt8) (hF : s_FormatValue x_1 pairs = some q) : FC Tryd.prog 10 [.agg (cVal.row 0 x_1), .psl 0 6 (pairs.map (cPair.enc 0))] [] 3 (fun x _ => x = .str q) := by
  refine FC.of_le ?_
  refine fc_body tabOK Tryd.func10 rfl Tryd.ntmps10 rfl rfl rfl ?_
  unfold s_FormatValue at hF
  refine at_seq ?_
  refine at_region ?_
  refine sxk 2 tabOK rfl ?_
  refine aops_nil ?_
  refine at_seq ?_
  refine at_seq ?_
  refine at_region ?_
  refine sxk 2 tabOK rfl ?_
  obtain ⟨x3, hx3, hF⟩ := bnd_some hF
  refine call_eq (s_IsValue_ok x_1 pairs x3 hx3) rfl ((rlL_cons (cVal.rl_agg (l := 0) (l' := 0) _ x_1 rfl) (rlL_cons (cPair.rl_psl (l := 0) (l' := 0) _ pairs rfl) rlL_nil))) rfl rfl ?_
  refine sxk 1 tabOK rfl ?_
  refine aops_nil ?_
  refine ct_bn hF rfl (fun hc hF => ?_) (fun hc hF => ?_)
  · refine at_seq ?_
    refine at_keep [] rfl ?_
    refine at_region ?_
    refine sxk 1 tabOK rfl ?_
    refine aops_nil ?_
    refine at_ret ?_
    refine tk_r ?_
    obtain rfl := Option.some.inj hF
    refine ret_le rfl ?_
    exact (vle_refl _)
  · refine at_skip ?_
    refine at_seq ?_
    refine at_region ?_
    refine sxk 2 tabOK rfl ?_
    obtain ⟨x4, hx4, hF⟩ := bnd_some hF
    refine call_eq (s_l8Text_ok x_1 pairs x4 hx4) rfl ((rlL_cons (cVal.rl_agg (l := 0) (l' := 0) _ x_1 rfl) (rlL_cons (cPair.rl_psl (l := 0) (l' := 0) _ pairs rfl) rlL_nil))) rfl rfl ?_
    refine sxk 1 tabOK rfl ?_
    refine aops_nil ?_
    refine at_ret ?_
    obtain rfl := Option.some.inj hF
    refine ret_le rfl ?_
    exact (vle_refl _)

theorem s_l1Join_ok (list : List (List UInt8)) (x_1 : List UInt8) (q : List UInt8) (hF : s_l1Join list x_1 = some q) : FC Tryd.prog 48 [.psl 0 1 (list.map (cStr.enc 0)), .str x_1] [] 3 (fun x _ => x = .str q) := by
  refine FC.of_le ?_
  refine fc_body tabOK Tryd.func48 rfl Tryd.ntmps48 rfl rfl rfl ?_
  unfold s_l1Join at hF
  refine at_seq ?_
  refine at_region ?_
  refine sxk 1 tabOK rfl ?_
  refine aops_nil ?_
  refine at_seq ?_
  refine at_region ?_
  refine sxk 1 tabOK rfl ?_
  refine aops_nil ?_
  refine at_seq ?_
  refine at_seq ?_
  refine at_region ?_
  refine sxk 1 tabOK rfl ?_
  refine sv rfl (oc_len cStr tabOK rfl rfl rfl) rfl ?_
  refine sxk 1 tabOK rfl ?_
  refine aops_nil ?_
  refine at_block ?_
  refine cl_loop (σ := List UInt8 × Int) (fun v => match v with | (out3, x4) => ⟨[(1, .str x_1), (5, .str out3), (8, .psl 0 1 (list.map (cStr.enc 0))), (9, .int .i64 (list.length : Int)), (10, .int .i64 x4)], [], 3, 25, []⟩) (s_l1Join_L1 list x_1) LF (([] : List UInt8), 0) hF (le_down (down_all (ee_cons rfl rfl rfl (ee_cons rfl rfl rfl (ee_cons rfl rfl (cStr.ok_psl _ rfl) (ee_cons rfl rfl rfl (ee_cons rfl rfl rfl ee_nil))))) he_nil rfl rfl rfl rfl)) ?_
  rintro lk_ ⟨out3, x4⟩ hF
  refine at_eq (s' := ⟨[(1, .str x_1), (5, .str out3), (8, .psl 0 1 (list.map (cStr.enc 0))), (9, .int .i64 (list.length : Int)), (10, .int .i64 x4)], [], 3, 25, []⟩) rfl ?_
  replace hF : s_l1Join_L1b list x_1 (itr (s_l1Join_L1 list x_1) lk_) out3 x4 = some q := hF
  unfold s_l1Join_L1b at hF
  generalize itr (s_l1Join_L1 list x_1) lk_ = go5 at hF ⊢
  refine at_seq ?_
  refine at_region ?_
  refine sxk 1 tabOK rfl ?_
  refine aops_nil ?_
  refine at_seq ?_
  refine ct_if hF rfl (fun hc hF => ?_) (fun hc hF => ?_)
  · refine at_skip ?_
    refine at_seq ?_
    refine at_block ?_
    refine at_seq ?_
    refine at_region ?_
    refine sxk 1 tabOK rfl ?_
    obtain ⟨x6, hn_x6, hF⟩ := bnd_some hF
    refine sv rfl (oc_addr cStr hn_x6 tabOK rfl rfl rfl rfl) rfl ?_
    refine sxk 3 tabOK rfl ?_
    refine aops_nil ?_
    refine at_seq ?_
    refine at_seq ?_
    refine at_region ?_
    refine sxk 2 tabOK rfl ?_
    refine aops_nil ?_
    refine cl_midn (σ := List UInt8) (fun out7 => ⟨[(1, .str x_1), (5, .str out7), (7, .str x6), (8, .psl 0 1 (list.map (cStr.enc 0))), (9, .int .i64 (list.length : Int)), (10, .int .i64 x4)], [], 3, 25, []⟩) (fun out7 => s_l1Join_J2 x4 go5 x6 out7 = some q) ?_ ?_
    · refine ct_if hF rfl (fun hc hF => ?_) (fun hc hF => ?_)
      · refine at_keep [1, 5, 7, 8, 9, 10] rfl ?_
        refine at_region ?_
        refine sxk 2 tabOK rfl ?_
        obtain ⟨hb, hF⟩ := chk_some hF
        refine sv rfl (ov_cat rfl rfl hb) rfl ?_
        refine sxk 1 tabOK rfl ?_
        refine aops_nil ?_
        exact arr_cut ⟨(out3 ++ x_1), hF, (le_down (down_all (ee_cons rfl rfl rfl (ee_cons rfl rfl rfl (ee_cons rfl rfl rfl (ee_cons rfl rfl (cStr.ok_psl _ rfl) (ee_cons rfl rfl rfl (ee_cons rfl rfl rfl ee_nil)))))) he_nil rfl rfl rfl rfl))⟩
      · refine at_skip ?_
        exact arr_cut ⟨out3, hF, (le_down (down_all (ee_cons rfl rfl rfl (ee_cons rfl rfl rfl (ee_cons rfl rfl rfl (ee_cons rfl rfl (cStr.ok_psl _ rfl) (ee_cons rfl rfl rfl (ee_cons rfl rfl rfl ee_nil)))))) he_nil rfl rfl rfl rfl))⟩
    · rintro out7 hF
      refine at_eq (s' := ⟨[(1, .str x_1), (5, .str out7), (7, .str x6), (8, .psl 0 1 (list.map (cStr.enc 0))), (9, .int .i64 (list.length : Int)), (10, .int .i64 x4)], [], 3, 25, []⟩) rfl ?_
      replace hF : s_l1Join_J2 x4 go5 x6 out7 = some q := hF
      unfold s_l1Join_J2 at hF
      refine at_region ?_
      refine sxk 2 tabOK rfl ?_
      obtain ⟨hb, hF⟩ := chk_some hF
      refine sv rfl (ov_cat rfl rfl hb) rfl ?_
      refine sxk 1 tabOK rfl ?_
      refine aops_nil ?_
      refine bk_n ?_
      refine at_region ?_
      obtain ⟨hb, hF⟩ := chk_some hF
      refine s_add tabOK rfl rfl rfl hb rfl ?_
      refine sxk 1 tabOK rfl ?_
      refine aops_nil ?_
      exact arr_loop ⟨((out7 ++ x6), (x4 + 1)), hF, (le_down (down_all (ee_cons rfl rfl rfl (ee_cons rfl rfl rfl (ee_cons rfl rfl (cStr.ok_psl _ rfl) (ee_cons rfl rfl rfl (ee_cons rfl rfl rfl ee_nil))))) he_nil rfl rfl rfl rfl))⟩
  · refine at_exit ?_
    refine tk_x ?_
    refine ll_x ?_
    refine bk_hit ?_
    refine at_seq ?_
    refine at_region ?_
    refine sxk 2 tabOK rfl ?_
    refine aops_nil ?_
    refine at_ret ?_
    obtain rfl := Option.some.inj hF
    refine ret_le rfl ?_
    exact (vle_refl _)

theorem s_l1Format_bok (s_l1Format : PDat → Option (List UInt8)) (h_s_l1Format : ∀ (d : PDat) (q : List UInt8), s_l1Format d = some q → FC Tryd.prog 30 [.agg (cDat.row 0 d)] [] 3 (fun x _ => x = .str q)) (d : PDat) (q : List UInt8) (hF : s_l1Format_b s_l1Format d = some q) : FC Tryd.prog 30 [.agg (cDat.row 0 d)] [] 3 (fun x _ => x = .str q) := by
  refine FC.of_le ?_
  refine fc_body tabOK Tryd.func30 rfl Tryd.ntmps30 rfl rfl rfl ?_
  unfold s_l1Format_b at hF
  refine at_seq ?_
  refine at_region ?_
  refine sxk 2 tabOK rfl ?_
  refine aops_nil ?_
  refine at_seq ?_
  refine at_seq ?_
  refine at_region ?_
  refine sxk 2 tabOK rfl ?_
  refine aops_nil ?_
  refine at_block ?_
  refine at_seq ?_
  refine at_region ?_
  refine sxk 2 tabOK rfl ?_
  refine aops_nil ?_
  refine ct_if hF rfl (fun hc hF => ?_) (fun hc hF => ?_)
  · refine at_seq ?_
    refine at_region ?_
    refine sxk 3 tabOK rfl ?_
    refine aops_nil ?_
    refine at_ret ?_
    refine bk_r ?_
    refine tk_r ?_
    obtain rfl := Option.some.inj hF
    refine ret_le rfl ?_
    exact (vle_refl _)
  · refine at_seq ?_
    refine at_region ?_
    refine sxk 2 tabOK rfl ?_
    refine aops_nil ?_
    refine ct_if hF rfl (fun hc hF => ?_) (fun hc hF => ?_)
    · refine at_seq ?_
      refine at_keep [1] rfl ?_
      refine at_region ?_
      refine sxk 2 tabOK rfl ?_
      obtain ⟨x3, hx3, hF⟩ := bnd_some hF
      refine call_eq (s_FormatNumber_ok d.number x3 hx3) rfl ((rlL_cons (rfl) rlL_nil)) rfl rfl ?_
      refine sxk 1 tabOK rfl ?_
      refine aops_nil ?_
      refine at_ret ?_
      refine bk_r ?_
      refine tk_r ?_
      obtain rfl := Option.some.inj hF
      refine ret_le rfl ?_
      exact (vle_refl _)
    · refine at_seq ?_
      refine at_keep [1, 7] rfl ?_
      refine at_region ?_
      refine sxk 2 tabOK rfl ?_
      refine aops_nil ?_
      refine ct_if hF rfl (fun hc hF => ?_) (fun hc hF => ?_)
      · refine at_seq ?_
        refine at_region ?_
        refine sc_slit cStr (l := 0) ([([35, 102] : List UInt8), ([35, 116] : List UInt8)] : List (List UInt8)) tabOK rfl rfl rfl rfl rfl rfl rfl ?_
        refine sxk 2 tabOK rfl ?_
        obtain ⟨x3, hn_x3, hF⟩ := bnd_some hF
        refine sv rfl (oc_haddr cStr hn_x3 tabOK rfl rfl rfl rfl) rfl ?_
        refine sv rfl (oc_load cStr hn_x3 tabOK rfl rfl rfl rfl) rfl ?_
        refine sxk 1 tabOK rfl ?_
        refine aops_nil ?_
        refine at_ret ?_
        refine bk_r ?_
        refine tk_r ?_
        obtain rfl := Option.some.inj hF
        refine ret_le rfl ?_
        exact (vle_refl _)
      · refine at_seq ?_
        refine at_region ?_
        refine sxk 2 tabOK rfl ?_
        refine aops_nil ?_
        refine ct_if hF rfl (fun hc hF => ?_) (fun hc hF => ?_)
        · refine at_seq ?_
          refine at_region ?_
          refine sxk 2 tabOK rfl ?_
          obtain ⟨hb, hF⟩ := chk_some hF
          refine sv rfl (ov_cat rfl rfl hb) rfl ?_
          obtain ⟨hb, hF⟩ := chk_some hF
          refine sv rfl (ov_cat rfl rfl hb) rfl ?_
          refine sxk 1 tabOK rfl ?_
          refine aops_nil ?_
          refine at_ret ?_
          refine bk_r ?_
          refine tk_r ?_
          obtain rfl := Option.some.inj hF
          refine ret_le rfl ?_
          exact (vle_refl _)
        · refine at_skip ?_
          refine bk_n ?_
          refine at_seq ?_
          refine at_region ?_
          refine sc_slit cStr (l := 0) ([] : List (List UInt8)) tabOK rfl rfl rfl rfl rfl rfl rfl ?_
          refine sxk 1 tabOK rfl ?_
          refine aops_nil ?_
          refine at_seq ?_
          refine at_seq ?_
          refine at_region ?_
          refine sxk 2 tabOK rfl ?_
          refine sv rfl (oc_len cDat tabOK rfl rfl rfl) rfl ?_
          refine sxk 1 tabOK rfl ?_
          refine aops_nil ?_
          refine at_block ?_
          refine cl_loop (σ := Int × List (List UInt8)) (fun v => match v with | (x3, parts4) => ⟨[(3, .hsl 4 0 parts4.length), (32, .psl 0 4 (d.items.map (cDat.enc 0))), (33, .int .i64 (d.items.length : Int)), (34, .int .i64 x3)], [(4, ⟨1, parts4.map (cStr.enc 0)⟩)], 5, 48, []⟩) (s_l1Format_L1 s_l1Format d) LF (0, ([] : List (List UInt8))) hF (le_down (down_all (ee_cons rfl rfl (Nat.le_of_ble_eq_true rfl) (ee_cons rfl rfl (cDat.ok_psl _ rfl) (ee_cons rfl rfl rfl (ee_cons rfl rfl rfl ee_nil)))) (he_cons rfl rfl rfl (cStr.rows_ok _ rfl) he_nil) rfl rfl rfl rfl)) ?_
          rintro lk_ ⟨x3, parts4⟩ hF
          refine at_eq (s' := ⟨[(3, .hsl 4 0 parts4.length), (32, .psl 0 4 (d.items.map (cDat.enc 0))), (33, .int .i64 (d.items.length : Int)), (34, .int .i64 x3)], [(4, ⟨1, parts4.map (cStr.enc 0)⟩)], 5, 48, []⟩) rfl ?_
          replace hF : s_l1Format_L1b s_l1Format d (itr (s_l1Format_L1 s_l1Format d) lk_) x3 parts4 = some q := hF
          unfold s_l1Format_L1b at hF
          generalize itr (s_l1Format_L1 s_l1Format d) lk_ = go5 at hF ⊢
          refine at_seq ?_
          refine at_region ?_
          refine sxk 1 tabOK rfl ?_
          refine aops_nil ?_
          refine at_seq ?_
          refine ct_if hF rfl (fun hc hF => ?_) (fun hc hF => ?_)
          · refine at_skip ?_
            refine at_seq ?_
            refine at_block ?_
            refine at_seq ?_
            refine at_region ?_
            obtain ⟨x6, hn_x6, hF⟩ := bnd_some hF
            refine sv rfl (oc_addr cDat hn_x6 tabOK rfl rfl rfl rfl) rfl ?_
            refine sxk 3 tabOK rfl ?_
            refine aops_nil ?_
            refine at_region ?_
            refine sxk 2 tabOK rfl ?_
            obtain ⟨x7, hx7, hF⟩ := bnd_some hF
            refine call_eq (h_s_l1Format x6 x7 hx7) rfl ((rlL_cons (cDat.rl_agg (l := 0) (l' := 0) _ x6 rfl) rlL_nil)) rfl rfl ?_
            refine sc_slit cStr (l := 0) ([x7] : List (List UInt8)) tabOK rfl rfl rfl rfl rfl rfl rfl ?_
            obtain ⟨hb, hF⟩ := chk_some hF
            refine sc_append cStr (l := 0) (xs := parts4) (ys := ([x7] : List (List UInt8))) hb rfl tabOK rfl rfl rfl rfl rfl rfl rfl (srcC_hsl cStr rfl rfl rfl) rfl ?_
            refine sxk 1 tabOK rfl ?_
            refine aops_nil ?_
            refine bk_n ?_
            refine at_keep [3, 32, 33, 34] rfl ?_
            refine at_region ?_
            obtain ⟨hb, hF⟩ := chk_some hF
            refine s_add tabOK rfl rfl rfl hb rfl ?_
            refine sxk 1 tabOK rfl ?_
            refine aops_nil ?_
            exact arr_loop ⟨((x3 + 1), (parts4 ++ ([x7] : List (List UInt8)))), hF, (le_down (down_all (ee_cons rfl rfl (Nat.le_of_ble_eq_true rfl) (ee_cons rfl rfl (cDat.ok_psl _ rfl) (ee_cons rfl rfl rfl (ee_cons rfl rfl rfl ee_nil)))) (he_cons rfl rfl rfl (cStr.rows_ok _ rfl) he_nil) rfl rfl rfl rfl))⟩
          · refine at_exit ?_
            refine tk_x ?_
            refine ll_x ?_
            refine bk_hit ?_
            refine at_seq ?_
            refine at_region ?_
            refine sxk 1 tabOK rfl ?_
            obtain ⟨x6, hx6, hF⟩ := bnd_some hF
            refine call_rdx (s_l1Join_ok parts4 ([32] : List UInt8) x6 hx6) rfl (rdL_cons (rd_hslF rfl (by simp) (cStr.rlR _ 0 _)) (rdL_cons (rd_rl (rfl)) rdL_nil)) rfl rfl ?_
            obtain ⟨hb, hF⟩ := chk_some hF
            refine sv rfl (ov_cat rfl rfl hb) rfl ?_
            obtain ⟨hb, hF⟩ := chk_some hF
            refine sv rfl (ov_cat rfl rfl hb) rfl ?_
            refine sxk 1 tabOK rfl ?_
            refine aops_nil ?_
            refine at_ret ?_
            obtain rfl := Option.some.inj hF
            refine ret_le rfl ?_
            exact (vle_refl _)

theorem s_l1Format_all (n : Nat) : (∀ (d : PDat) (q : List UInt8), s_l1Format n d = some q → FC Tryd.prog 30 [.agg (cDat.row 0 d)] [] 3 (fun x _ => x = .str q)) := by
  induction n with
  | zero => exact fun _ q h => by cases h
  | succ n ih => exact fun d q h => s_l1Format_bok (s_l1Format n) ih d q h

theorem s_l1Format_ok (n : Nat) (d : PDat) (q : List UInt8) (hF : s_l1Format n d = some q) : FC Tryd.prog 30 [.agg (cDat.row 0 d)] [] 3 (fun x _ => x = .str q) := (s_l1Format_all n) d q hF

end Go.Proofs.YtiecdekmiabmkaaDoor
