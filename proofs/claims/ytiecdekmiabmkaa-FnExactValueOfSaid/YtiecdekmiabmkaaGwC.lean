/-
  Walks, made by wip/gen: C
-/
import Derived.Test.YtiecdekmiabmkaaGpC
import Derived.Test.YtiecdekmiabmkaaGwB
set_option linter.unusedVariables false
set_option linter.unusedSimpArgs false
namespace Go.Proofs.Ytiecdekmiabmkaa
open Go.Abs
attribute [local irreducible] AT AOps FC DR DN
set_option maxRecDepth 10000
set_option maxHeartbeats 4000000

theorem s_l1In_ok (x_1 : Int) (a : Int) (b : Int) (q : Bool) (hF : s_l1In x_1 a b = some q) : FC Try.prog 80 [.int .i64 x_1, .int .i64 a, .int .i64 b] [] 3 (fun x _ => x = .bool q) := by
  refine FC.of_le ?_
  refine fc_body tabOK Try.func80 rfl Try.ntmps80 rfl rfl rfl ?_
  unfold s_l1In at hF
  refine at_seq ?_
  refine at_region ?_
  refine sxk 1 tabOK rfl ?_
  refine aops_nil ?_
  refine at_seq ?_
  refine at_region ?_
  refine sxk 4 tabOK rfl ?_
  refine ops_if (g := 10) hF rfl (fun hc hF => ?_) (fun hc hF => ?_)
  · refine sxk 5 tabOK rfl ?_
    refine aops_nil ?_
    refine at_ret ?_
    obtain rfl := Option.some.inj hF
    refine ret_le rfl ?_
    exact (vle_refl _)
  · refine sxk 5 tabOK rfl ?_
    refine aops_nil ?_
    refine at_ret ?_
    obtain rfl := Option.some.inj hF
    refine ret_le rfl ?_
    exact (vle_refl _)

theorem s_l1Digit_ok (b : Int) (q : Bool) (hF : s_l1Digit b = some q) : FC Try.prog 124 [.int .u8 b] [] 3 (fun x _ => x = .bool q) := by
  refine FC.of_le ?_
  refine fc_body tabOK Try.func124 rfl Try.ntmps124 rfl rfl rfl ?_
  unfold s_l1Digit at hF
  refine at_seq ?_
  refine at_region ?_
  refine sxk 1 tabOK rfl ?_
  refine aops_nil ?_
  refine at_seq ?_
  refine at_region ?_
  refine sxk 3 tabOK rfl ?_
  refine ops_if (g := 5) hF rfl (fun hc hF => ?_) (fun hc hF => ?_)
  · refine sxk 4 tabOK rfl ?_
    refine aops_nil ?_
    refine at_ret ?_
    obtain rfl := Option.some.inj hF
    refine ret_le rfl ?_
    exact (vle_refl _)
  · refine sxk 4 tabOK rfl ?_
    refine aops_nil ?_
    refine at_ret ?_
    obtain rfl := Option.some.inj hF
    refine ret_le rfl ?_
    exact (vle_refl _)

theorem s_l1Mark_ok (b : Int) (q : Bool) (hF : s_l1Mark b = some q) : FC Try.prog 125 [.int .u8 b] [] 3 (fun x _ => x = .bool q) := by
  refine FC.of_le ?_
  refine fc_body tabOK Try.func125 rfl Try.ntmps125 rfl rfl rfl ?_
  unfold s_l1Mark at hF
  refine at_seq ?_
  refine at_region ?_
  refine sxk 1 tabOK rfl ?_
  refine aops_nil ?_
  refine at_seq ?_
  refine at_seq ?_
  refine cl_midn (σ := Bool) (fun x2 => ⟨[(0, .int .u8 b), (14, .bool x2)], [], 3, 26, []⟩) (fun x2 => s_l1Mark_J1 b x2 = some q) ?_ ?_
  · refine at_region ?_
    refine sxk 3 tabOK rfl ?_
    refine ops_if (g := 7) hF rfl (fun hc hF => ?_) (fun hc hF => ?_)
    · refine sxk 4 tabOK rfl ?_
      refine ops_if (g := 11) hF rfl (fun hc hF => ?_) (fun hc hF => ?_)
      · refine sxk 3 tabOK rfl ?_
        refine aops_nil ?_
        exact arr_cut ⟨true, hF, (le_down (down_all (ee_cons rfl rfl rfl (ee_cons rfl rfl rfl ee_nil)) he_nil rfl rfl rfl rfl))⟩
      · refine sxk 1 tabOK rfl ?_
        obtain ⟨x2, hx2, hF⟩ := bnd_some hF
        refine call_eq (s_l1Digit_ok b x2 hx2) rfl ((rlL_cons (rfl) rlL_nil)) rfl rfl ?_
        refine sxk 1 tabOK rfl ?_
        refine aops_nil ?_
        exact arr_cut ⟨x2, hF, (le_down (down_all (ee_cons rfl rfl rfl (ee_cons rfl rfl rfl ee_nil)) he_nil rfl rfl rfl rfl))⟩
    · refine sxk 5 tabOK rfl ?_
      obtain ⟨x2, hx2, hF⟩ := bnd_some hF
      refine call_eq (s_l1Digit_ok b x2 hx2) rfl ((rlL_cons (rfl) rlL_nil)) rfl rfl ?_
      refine sxk 1 tabOK rfl ?_
      refine aops_nil ?_
      exact arr_cut ⟨x2, hF, (le_down (down_all (ee_cons rfl rfl rfl (ee_cons rfl rfl rfl ee_nil)) he_nil rfl rfl rfl rfl))⟩
  · rintro x2 hF
    refine at_eq (s' := ⟨[(0, .int .u8 b), (14, .bool x2)], [], 3, 26, []⟩) rfl ?_
    replace hF : s_l1Mark_J1 b x2 = some q := hF
    unfold s_l1Mark_J1 at hF
    refine ct_b hF rfl (fun hc hF => ?_) (fun hc hF => ?_)
    · refine at_seq ?_
      refine at_region ?_
      refine sxk 1 tabOK rfl ?_
      refine aops_nil ?_
      refine at_ret ?_
      refine tk_r ?_
      obtain rfl := Option.some.inj hF
      refine ret_le rfl ?_
      exact (vle_refl _)
    · refine at_skip ?_
      refine at_seq ?_
      refine at_region ?_
      refine sxk 1 tabOK rfl ?_
      refine aops_nil ?_
      refine at_seq ?_
      refine at_seq ?_
      refine at_region ?_
      refine sxk 1 tabOK rfl ?_
      refine aops_nil ?_
      refine at_block ?_
      refine cl_loop (σ := Int) (fun i3 => ⟨[(0, .int .u8 b), (3, .str ([33, 63, 42, 60, 62, 61, 47, 43, 45, 46, 95] : List UInt8)), (4, .int .i64 i3)], [], 3, 26, []⟩) (s_l1Mark_L2 b) LF 0 hF (le_down (down_all (ee_cons rfl rfl rfl (ee_cons rfl rfl rfl (ee_cons rfl rfl rfl ee_nil))) he_nil rfl rfl rfl rfl)) ?_
      rintro lk_ i3 hF
      refine at_eq (s' := ⟨[(0, .int .u8 b), (3, .str ([33, 63, 42, 60, 62, 61, 47, 43, 45, 46, 95] : List UInt8)), (4, .int .i64 i3)], [], 3, 26, []⟩) rfl ?_
      replace hF : s_l1Mark_L2b b (itr (s_l1Mark_L2 b) lk_) i3 = some q := hF
      unfold s_l1Mark_L2b at hF
      generalize itr (s_l1Mark_L2 b) lk_ = go4 at hF ⊢
      refine at_seq ?_
      refine at_seq ?_
      refine at_region ?_
      refine sxk 4 tabOK rfl ?_
      refine aops_nil ?_
      refine ct_if hF rfl (fun hc hF => ?_) (fun hc hF => ?_)
      · refine at_skip ?_
        refine at_seq ?_
        refine at_block ?_
        refine at_seq ?_
        refine at_region ?_
        refine sxk 2 tabOK rfl ?_
        obtain ⟨x5, hn_x5, hF⟩ := bnd_some hF
        refine sv rfl (oc_byte hn_x5 tabOK rfl rfl rfl) rfl ?_
        refine sxk 2 tabOK rfl ?_
        refine aops_nil ?_
        refine ct_if hF rfl (fun hc hF => ?_) (fun hc hF => ?_)
        · refine at_seq ?_
          refine at_keep [] rfl ?_
          refine at_region ?_
          refine sxk 1 tabOK rfl ?_
          refine aops_nil ?_
          refine at_ret ?_
          refine bk_r ?_
          refine tk_r ?_
          refine ll_r ?_
          refine bk_r ?_
          refine tk_r ?_
          obtain rfl := Option.some.inj hF
          refine ret_le rfl ?_
          exact (vle_refl _)
        · refine at_skip ?_
          refine bk_n ?_
          refine at_keep [0, 3, 4] rfl ?_
          refine at_region ?_
          refine sxk 1 tabOK rfl ?_
          obtain ⟨hb, hF⟩ := chk_some hF
          refine s_add tabOK rfl rfl rfl hb rfl ?_
          refine sxk 1 tabOK rfl ?_
          refine aops_nil ?_
          exact arr_loop ⟨(i3 + 1), hF, (le_down (down_all (ee_cons rfl rfl rfl (ee_cons rfl rfl rfl (ee_cons rfl rfl rfl ee_nil))) he_nil rfl rfl rfl rfl))⟩
      · refine at_exit ?_
        refine tk_x ?_
        refine ll_x ?_
        refine bk_hit ?_
        refine at_seq ?_
        refine at_keep [] rfl ?_
        refine at_region ?_
        refine sxk 1 tabOK rfl ?_
        refine aops_nil ?_
        refine at_ret ?_
        obtain rfl := Option.some.inj hF
        refine ret_le rfl ?_
        exact (vle_refl _)

theorem s_IsSymbol_ok (s : List UInt8) (q : Bool) (hF : s_IsSymbol s = some q) : FC Try.prog 100 [.str s] [] 3 (fun x _ => x = .bool q) := by
  refine FC.of_le ?_
  refine fc_body tabOK Try.func100 rfl Try.ntmps100 rfl rfl rfl ?_
  unfold s_IsSymbol at hF
  refine at_seq ?_
  refine at_region ?_
  refine sxk 1 tabOK rfl ?_
  refine aops_nil ?_
  refine at_seq ?_
  refine at_seq ?_
  refine cl_midn (σ := Bool) (fun x2 => ⟨[(0, .str s), (27, .bool x2)], [], 3, 39, []⟩) (fun x2 => s_IsSymbol_J1 s x2 = some q) ?_ ?_
  · refine at_region ?_
    refine sxk 2 tabOK rfl ?_
    obtain ⟨x2, hx2, hF⟩ := bnd_some hF
    refine call_eq (s_l1In_ok (s.length : Int) 1 16 x2 hx2) rfl ((rlL_cons (rfl) (rlL_cons (rfl) (rlL_cons (rfl) rlL_nil)))) rfl rfl ?_
    refine sxk 2 tabOK rfl ?_
    refine ops_ifnb (g := 8) hF rfl (fun hc hF => ?_) (fun hc hF => ?_)
    · refine sxk 19 tabOK rfl ?_
      refine aops_nil ?_
      exact arr_cut ⟨true, hF, (le_down (down_all (ee_cons rfl rfl rfl (ee_cons rfl rfl rfl ee_nil)) he_nil rfl rfl rfl rfl))⟩
    · refine sxk 1 tabOK rfl ?_
      obtain ⟨x3, hn_x3, hF⟩ := bnd_some hF
      refine sv rfl (oc_byte hn_x3 tabOK rfl rfl rfl) rfl ?_
      obtain ⟨x4, hx4, hF⟩ := bnd_some hF
      refine call_eq (s_l1Digit_ok (x3.toNat : Int) x4 hx4) rfl ((rlL_cons (rfl) rlL_nil)) rfl rfl ?_
      refine sxk 2 tabOK rfl ?_
      refine ops_ifb (g := 13) hF rfl (fun hc hF => ?_) (fun hc hF => ?_)
      · refine sxk 14 tabOK rfl ?_
        refine aops_nil ?_
        exact arr_cut ⟨true, hF, (le_down (down_all (ee_cons rfl rfl rfl (ee_cons rfl rfl rfl ee_nil)) he_nil rfl rfl rfl rfl))⟩
      · refine sxk 1 tabOK rfl ?_
        obtain ⟨x5, hn_x5, hF⟩ := bnd_some hF
        refine sv rfl (oc_byte hn_x5 tabOK rfl rfl rfl) rfl ?_
        refine sxk 2 tabOK rfl ?_
        refine ops_if (g := 17) hF rfl (fun hc hF => ?_) (fun hc hF => ?_)
        · refine sxk 5 tabOK rfl ?_
          refine ops_if (g := 22) hF rfl (fun hc hF => ?_) (fun hc hF => ?_)
          · refine sxk 1 tabOK rfl ?_
            obtain ⟨x6, hn_x6, hF⟩ := bnd_some hF
            refine sv rfl (oc_byte hn_x6 tabOK rfl rfl rfl) rfl ?_
            obtain ⟨x7, hx7, hF⟩ := bnd_some hF
            refine call_eq (s_l1Digit_ok (x6.toNat : Int) x7 hx7) rfl ((rlL_cons (rfl) rlL_nil)) rfl rfl ?_
            refine sxk 2 tabOK rfl ?_
            refine aops_nil ?_
            exact arr_cut ⟨x7, hF, (le_down (down_all (ee_cons rfl rfl rfl (ee_cons rfl rfl rfl ee_nil)) he_nil rfl rfl rfl rfl))⟩
          · refine sxk 5 tabOK rfl ?_
            refine aops_nil ?_
            exact arr_cut ⟨false, hF, (le_down (down_all (ee_cons rfl rfl rfl (ee_cons rfl rfl rfl ee_nil)) he_nil rfl rfl rfl rfl))⟩
        · refine sxk 10 tabOK rfl ?_
          refine aops_nil ?_
          exact arr_cut ⟨false, hF, (le_down (down_all (ee_cons rfl rfl rfl (ee_cons rfl rfl rfl ee_nil)) he_nil rfl rfl rfl rfl))⟩
  · rintro x2 hF
    refine at_eq (s' := ⟨[(0, .str s), (27, .bool x2)], [], 3, 39, []⟩) rfl ?_
    replace hF : s_IsSymbol_J1 s x2 = some q := hF
    unfold s_IsSymbol_J1 at hF
    refine ct_b hF rfl (fun hc hF => ?_) (fun hc hF => ?_)
    · refine at_seq ?_
      refine at_region ?_
      refine sxk 1 tabOK rfl ?_
      refine aops_nil ?_
      refine at_ret ?_
      refine tk_r ?_
      obtain rfl := Option.some.inj hF
      refine ret_le rfl ?_
      exact (vle_refl _)
    · refine at_skip ?_
      refine at_seq ?_
      refine at_seq ?_
      refine at_region ?_
      refine sxk 1 tabOK rfl ?_
      refine aops_nil ?_
      refine at_block ?_
      refine cl_loop (σ := Int) (fun i3 => ⟨[(0, .str s), (3, .int .i64 i3)], [], 3, 39, []⟩) (s_IsSymbol_L2 s) LF 0 hF (le_down (down_all (ee_cons rfl rfl rfl (ee_cons rfl rfl rfl ee_nil)) he_nil rfl rfl rfl rfl)) ?_
      rintro lk_ i3 hF
      refine at_eq (s' := ⟨[(0, .str s), (3, .int .i64 i3)], [], 3, 39, []⟩) rfl ?_
      replace hF : s_IsSymbol_L2b s (itr (s_IsSymbol_L2 s) lk_) i3 = some q := hF
      unfold s_IsSymbol_L2b at hF
      generalize itr (s_IsSymbol_L2 s) lk_ = go4 at hF ⊢
      refine at_seq ?_
      refine at_seq ?_
      refine at_region ?_
      refine sxk 4 tabOK rfl ?_
      refine aops_nil ?_
      refine ct_if hF rfl (fun hc hF => ?_) (fun hc hF => ?_)
      · refine at_skip ?_
        refine at_seq ?_
        refine at_block ?_
        refine at_seq ?_
        refine at_region ?_
        refine sxk 2 tabOK rfl ?_
        obtain ⟨x5, hn_x5, hF⟩ := bnd_some hF
        refine sv rfl (oc_byte hn_x5 tabOK rfl rfl rfl) rfl ?_
        obtain ⟨x6, hx6, hF⟩ := bnd_some hF
        refine call_eq (s_l1Mark_ok (x5.toNat : Int) x6 hx6) rfl ((rlL_cons (rfl) rlL_nil)) rfl rfl ?_
        refine sxk 1 tabOK rfl ?_
        refine aops_nil ?_
        refine ct_bn hF rfl (fun hc hF => ?_) (fun hc hF => ?_)
        · refine at_seq ?_
          refine at_keep [] rfl ?_
          refine at_region ?_
          refine sxk 1 tabOK rfl ?_
          refine aops_nil ?_
          refine at_ret ?_
          refine bk_r ?_
          refine tk_r ?_
          refine ll_r ?_
          refine bk_r ?_
          refine tk_r ?_
          obtain rfl := Option.some.inj hF
          refine ret_le rfl ?_
          exact (vle_refl _)
        · refine at_skip ?_
          refine bk_n ?_
          refine at_keep [0, 3] rfl ?_
          refine at_region ?_
          refine sxk 1 tabOK rfl ?_
          obtain ⟨hb, hF⟩ := chk_some hF
          refine s_add tabOK rfl rfl rfl hb rfl ?_
          refine sxk 1 tabOK rfl ?_
          refine aops_nil ?_
          exact arr_loop ⟨(i3 + 1), hF, (le_down (down_all (ee_cons rfl rfl rfl (ee_cons rfl rfl rfl ee_nil)) he_nil rfl rfl rfl rfl))⟩
      · refine at_exit ?_
        refine tk_x ?_
        refine ll_x ?_
        refine bk_hit ?_
        refine at_seq ?_
        refine at_region ?_
        refine sxk 1 tabOK rfl ?_
        refine aops_nil ?_
        refine at_ret ?_
        obtain rfl := Option.some.inj hF
        refine ret_le rfl ?_
        exact (vle_refl _)

theorem s_l1String_ok (s : List UInt8) (q : Bool) (hF : s_l1String s = some q) : FC Try.prog 101 [.str s] [] 3 (fun x _ => x = .bool q) := by
  refine FC.of_le ?_
  refine fc_body tabOK Try.func101 rfl Try.ntmps101 rfl rfl rfl ?_
  unfold s_l1String at hF
  refine at_seq ?_
  refine at_region ?_
  refine sxk 1 tabOK rfl ?_
  refine aops_nil ?_
  refine at_seq ?_
  refine at_seq ?_
  refine at_region ?_
  refine sxk 1 tabOK rfl ?_
  refine aops_nil ?_
  refine at_block ?_
  refine cl_loop (σ := Int) (fun i2 => ⟨[(0, .str s), (3, .int .i64 i2)], [], 3, 29, []⟩) (s_l1String_L1 s) LF 0 hF (le_down (down_all (ee_cons rfl rfl rfl (ee_cons rfl rfl rfl ee_nil)) he_nil rfl rfl rfl rfl)) ?_
  rintro lk_ i2 hF
  refine at_eq (s' := ⟨[(0, .str s), (3, .int .i64 i2)], [], 3, 29, []⟩) rfl ?_
  replace hF : s_l1String_L1b s (itr (s_l1String_L1 s) lk_) i2 = some q := hF
  unfold s_l1String_L1b at hF
  generalize itr (s_l1String_L1 s) lk_ = go3 at hF ⊢
  refine at_seq ?_
  refine at_seq ?_
  refine at_region ?_
  refine sxk 4 tabOK rfl ?_
  refine aops_nil ?_
  refine ct_if hF rfl (fun hc hF => ?_) (fun hc hF => ?_)
  · refine at_skip ?_
    refine at_seq ?_
    refine at_block ?_
    refine at_seq ?_
    refine at_region ?_
    refine sxk 2 tabOK rfl ?_
    obtain ⟨x4, hn_x4, hF⟩ := bnd_some hF
    refine sv rfl (oc_byte hn_x4 tabOK rfl rfl rfl) rfl ?_
    refine sxk 2 tabOK rfl ?_
    refine ops_if (g := 14) hF rfl (fun hc hF => ?_) (fun hc hF => ?_)
    · refine sxk 11 tabOK rfl ?_
      refine aops_nil ?_
      refine at_true rfl ?_
      refine at_seq ?_
      refine at_keep [] rfl ?_
      refine at_region ?_
      refine sxk 1 tabOK rfl ?_
      refine aops_nil ?_
      refine at_ret ?_
      refine bk_r ?_
      refine tk_r ?_
      refine ll_r ?_
      refine bk_r ?_
      refine tk_r ?_
      obtain rfl := Option.some.inj hF
      refine ret_le rfl ?_
      exact (vle_refl _)
    · refine sxk 2 tabOK rfl ?_
      obtain ⟨x5, hn_x5, hF⟩ := bnd_some hF
      refine sv rfl (oc_byte hn_x5 tabOK rfl rfl rfl) rfl ?_
      refine sxk 3 tabOK rfl ?_
      refine ops_if (g := 20) hF rfl (fun hc hF => ?_) (fun hc hF => ?_)
      · refine sxk 5 tabOK rfl ?_
        refine aops_nil ?_
        refine at_true rfl ?_
        refine at_seq ?_
        refine at_keep [] rfl ?_
        refine at_region ?_
        refine sxk 1 tabOK rfl ?_
        refine aops_nil ?_
        refine at_ret ?_
        refine bk_r ?_
        refine tk_r ?_
        refine ll_r ?_
        refine bk_r ?_
        refine tk_r ?_
        obtain rfl := Option.some.inj hF
        refine ret_le rfl ?_
        exact (vle_refl _)
      · refine sxk 2 tabOK rfl ?_
        obtain ⟨x6, hn_x6, hF⟩ := bnd_some hF
        refine sv rfl (oc_byte hn_x6 tabOK rfl rfl rfl) rfl ?_
        refine sxk 2 tabOK rfl ?_
        refine aops_nil ?_
        refine ct_if hF rfl (fun hc hF => ?_) (fun hc hF => ?_)
        · refine at_seq ?_
          refine at_keep [] rfl ?_
          refine at_region ?_
          refine sxk 1 tabOK rfl ?_
          refine aops_nil ?_
          refine at_ret ?_
          refine bk_r ?_
          refine tk_r ?_
          refine ll_r ?_
          refine bk_r ?_
          refine tk_r ?_
          obtain rfl := Option.some.inj hF
          refine ret_le rfl ?_
          exact (vle_refl _)
        · refine at_skip ?_
          refine bk_n ?_
          refine at_keep [0, 3, 15, 16, 17, 18, 21, 22, 23, 24] rfl ?_
          refine at_region ?_
          refine sxk 1 tabOK rfl ?_
          obtain ⟨hb, hF⟩ := chk_some hF
          refine s_add tabOK rfl rfl rfl hb rfl ?_
          refine sxk 1 tabOK rfl ?_
          refine aops_nil ?_
          exact arr_loop ⟨(i2 + 1), hF, (le_down (down_all (ee_cons rfl rfl rfl (ee_cons rfl rfl rfl ee_nil)) he_nil rfl rfl rfl rfl))⟩
  · refine at_exit ?_
    refine tk_x ?_
    refine ll_x ?_
    refine bk_hit ?_
    refine at_seq ?_
    refine at_region ?_
    refine sxk 4 tabOK rfl ?_
    refine aops_nil ?_
    refine at_ret ?_
    obtain rfl := Option.some.inj hF
    refine ret_le rfl ?_
    exact (vle_refl _)

theorem s_l1Node_ok (kind : Int) (number : Int) (text : List UInt8) (items : Int) (q : Bool) (hF : s_l1Node kind number text items = some q) : FC Try.prog 129 [.int .i64 kind, .int .i64 number, .str text, .int .i64 items] [] 3 (fun x _ => x = .bool q) := by
  refine FC.of_le ?_
  refine fc_body tabOK Try.func129 rfl Try.ntmps129 rfl rfl rfl ?_
  unfold s_l1Node at hF
  refine at_seq ?_
  refine at_region ?_
  refine sxk 1 tabOK rfl ?_
  refine aops_nil ?_
  refine at_seq ?_
  refine at_seq ?_
  refine at_region ?_
  refine sxk 1 tabOK rfl ?_
  refine aops_nil ?_
  refine at_block ?_
  refine at_seq ?_
  refine at_region ?_
  refine sxk 2 tabOK rfl ?_
  refine aops_nil ?_
  refine ct_if hF rfl (fun hc hF => ?_) (fun hc hF => ?_)
  · refine at_seq ?_
    refine at_region ?_
    refine sxk 3 tabOK rfl ?_
    refine ops_if (g := 14) hF rfl (fun hc hF => ?_) (fun hc hF => ?_)
    · refine sxk 4 tabOK rfl ?_
      refine aops_nil ?_
      refine at_ret ?_
      refine bk_r ?_
      refine tk_r ?_
      obtain rfl := Option.some.inj hF
      refine ret_le rfl ?_
      exact (vle_refl _)
    · refine sxk 4 tabOK rfl ?_
      refine aops_nil ?_
      refine at_ret ?_
      refine bk_r ?_
      refine tk_r ?_
      obtain rfl := Option.some.inj hF
      refine ret_le rfl ?_
      exact (vle_refl _)
  · refine at_seq ?_
    refine at_region ?_
    refine sxk 2 tabOK rfl ?_
    refine aops_nil ?_
    refine ct_if hF rfl (fun hc hF => ?_) (fun hc hF => ?_)
    · refine at_seq ?_
      refine at_keep [1, 2, 3] rfl ?_
      refine at_region ?_
      refine sxk 3 tabOK rfl ?_
      refine ops_if (g := 22) hF rfl (fun hc hF => ?_) (fun hc hF => ?_)
      · refine sxk 1 tabOK rfl ?_
        obtain ⟨x5, hx5, hF⟩ := bnd_some hF
        refine call_eq (s_IsSymbol_ok text x5 hx5) rfl ((rlL_cons (rfl) rlL_nil)) rfl rfl ?_
        refine sxk 2 tabOK rfl ?_
        refine ops_ifb (g := 26) hF rfl (fun hc hF => ?_) (fun hc hF => ?_)
        · refine sxk 4 tabOK rfl ?_
          refine aops_nil ?_
          refine at_ret ?_
          refine bk_r ?_
          refine tk_r ?_
          obtain rfl := Option.some.inj hF
          refine ret_le rfl ?_
          exact (vle_refl _)
        · refine sxk 4 tabOK rfl ?_
          refine aops_nil ?_
          refine at_ret ?_
          refine bk_r ?_
          refine tk_r ?_
          obtain rfl := Option.some.inj hF
          refine ret_le rfl ?_
          exact (vle_refl _)
      · refine sxk 8 tabOK rfl ?_
        refine aops_nil ?_
        refine at_ret ?_
        refine bk_r ?_
        refine tk_r ?_
        obtain rfl := Option.some.inj hF
        refine ret_le rfl ?_
        exact (vle_refl _)
    · refine at_seq ?_
      refine at_region ?_
      refine sxk 2 tabOK rfl ?_
      refine aops_nil ?_
      refine ct_if hF rfl (fun hc hF => ?_) (fun hc hF => ?_)
      · refine at_seq ?_
        refine at_keep [1, 2, 3] rfl ?_
        refine at_region ?_
        refine sxk 1 tabOK rfl ?_
        obtain ⟨x5, hx5, hF⟩ := bnd_some hF
        refine call_eq (s_l1In_ok number (-999999999) 999999999 x5 hx5) rfl ((rlL_cons (rfl) (rlL_cons (rfl) (rlL_cons (rfl) rlL_nil)))) rfl rfl ?_
        refine sxk 1 tabOK rfl ?_
        refine ops_ifb (g := 34) hF rfl (fun hc hF => ?_) (fun hc hF => ?_)
        · refine sxk 4 tabOK rfl ?_
          refine ops_if (g := 38) hF rfl (fun hc hF => ?_) (fun hc hF => ?_)
          · refine sxk 4 tabOK rfl ?_
            refine aops_nil ?_
            refine at_ret ?_
            refine bk_r ?_
            refine tk_r ?_
            obtain rfl := Option.some.inj hF
            refine ret_le rfl ?_
            exact (vle_refl _)
          · refine sxk 4 tabOK rfl ?_
            refine aops_nil ?_
            refine at_ret ?_
            refine bk_r ?_
            refine tk_r ?_
            obtain rfl := Option.some.inj hF
            refine ret_le rfl ?_
            exact (vle_refl _)
        · refine sxk 8 tabOK rfl ?_
          refine aops_nil ?_
          refine at_ret ?_
          refine bk_r ?_
          refine tk_r ?_
          obtain rfl := Option.some.inj hF
          refine ret_le rfl ?_
          exact (vle_refl _)
      · refine at_seq ?_
        refine at_keep [1, 2, 3, 9] rfl ?_
        refine at_region ?_
        refine sxk 2 tabOK rfl ?_
        refine aops_nil ?_
        refine ct_if hF rfl (fun hc hF => ?_) (fun hc hF => ?_)
        · refine at_seq ?_
          refine at_region ?_
          refine sxk 1 tabOK rfl ?_
          obtain ⟨x5, hx5, hF⟩ := bnd_some hF
          refine call_eq (s_l1In_ok number 0 1 x5 hx5) rfl ((rlL_cons (rfl) (rlL_cons (rfl) (rlL_cons (rfl) rlL_nil)))) rfl rfl ?_
          refine sxk 1 tabOK rfl ?_
          refine ops_ifb (g := 46) hF rfl (fun hc hF => ?_) (fun hc hF => ?_)
          · refine sxk 4 tabOK rfl ?_
            refine ops_if (g := 50) hF rfl (fun hc hF => ?_) (fun hc hF => ?_)
            · refine sxk 4 tabOK rfl ?_
              refine aops_nil ?_
              refine at_ret ?_
              refine bk_r ?_
              refine tk_r ?_
              obtain rfl := Option.some.inj hF
              refine ret_le rfl ?_
              exact (vle_refl _)
            · refine sxk 4 tabOK rfl ?_
              refine aops_nil ?_
              refine at_ret ?_
              refine bk_r ?_
              refine tk_r ?_
              obtain rfl := Option.some.inj hF
              refine ret_le rfl ?_
              exact (vle_refl _)
          · refine sxk 8 tabOK rfl ?_
            refine aops_nil ?_
            refine at_ret ?_
            refine bk_r ?_
            refine tk_r ?_
            obtain rfl := Option.some.inj hF
            refine ret_le rfl ?_
            exact (vle_refl _)
        · refine at_seq ?_
          refine at_region ?_
          refine sxk 2 tabOK rfl ?_
          refine aops_nil ?_
          refine ct_if hF rfl (fun hc hF => ?_) (fun hc hF => ?_)
          · refine at_seq ?_
            refine at_region ?_
            refine sxk 3 tabOK rfl ?_
            refine ops_if (g := 58) hF rfl (fun hc hF => ?_) (fun hc hF => ?_)
            · refine sxk 1 tabOK rfl ?_
              obtain ⟨x5, hx5, hF⟩ := bnd_some hF
              refine call_eq (s_l1String_ok text x5 hx5) rfl ((rlL_cons (rfl) rlL_nil)) rfl rfl ?_
              refine sxk 2 tabOK rfl ?_
              refine ops_ifb (g := 62) hF rfl (fun hc hF => ?_) (fun hc hF => ?_)
              · refine sxk 4 tabOK rfl ?_
                refine aops_nil ?_
                refine at_ret ?_
                refine bk_r ?_
                refine tk_r ?_
                obtain rfl := Option.some.inj hF
                refine ret_le rfl ?_
                exact (vle_refl _)
              · refine sxk 4 tabOK rfl ?_
                refine aops_nil ?_
                refine at_ret ?_
                refine bk_r ?_
                refine tk_r ?_
                obtain rfl := Option.some.inj hF
                refine ret_le rfl ?_
                exact (vle_refl _)
            · refine sxk 8 tabOK rfl ?_
              refine aops_nil ?_
              refine at_ret ?_
              refine bk_r ?_
              refine tk_r ?_
              obtain rfl := Option.some.inj hF
              refine ret_le rfl ?_
              exact (vle_refl _)
          · refine at_skip ?_
            refine bk_n ?_
            refine at_seq ?_
            refine at_keep [] rfl ?_
            refine at_region ?_
            refine sxk 1 tabOK rfl ?_
            refine aops_nil ?_
            refine at_ret ?_
            obtain rfl := Option.some.inj hF
            refine ret_le rfl ?_
            exact (vle_refl _)

theorem s_l1Nodes_bok (s_l1Nodes : PDat → Option Bool) (h_s_l1Nodes : ∀ (d : PDat) (q : Bool), s_l1Nodes d = some q → FC Try.prog 111 [.agg (cDat.row 0 d)] [] 3 (fun x _ => x = .bool q)) (d : PDat) (q : Bool) (hF : s_l1Nodes_b s_l1Nodes d = some q) : FC Try.prog 111 [.agg (cDat.row 0 d)] [] 3 (fun x _ => x = .bool q) := by
  refine FC.of_le ?_
  refine fc_body tabOK Try.func111 rfl Try.ntmps111 rfl rfl rfl ?_
  unfold s_l1Nodes_b at hF
  refine at_seq ?_
  refine at_region ?_
  refine sxk 2 tabOK rfl ?_
  refine aops_nil ?_
  refine at_seq ?_
  refine at_seq ?_
  refine at_region ?_
  refine sxk 2 tabOK rfl ?_
  refine sv rfl (oc_len cDat tabOK rfl rfl rfl) rfl ?_
  refine sxk 1 tabOK rfl ?_
  refine aops_nil ?_
  refine at_block ?_
  refine cl_loop (σ := Int) (fun x3 => ⟨[(1, .ptr 3 1 0 0), (6, .psl 0 4 (d.items.map (cDat.enc 0))), (7, .int .i64 (d.items.length : Int)), (8, .int .i64 x3)], [(3, ⟨4, [cDat.row 0 d]⟩)], 4, 26, []⟩) (s_l1Nodes_L1 s_l1Nodes d) LF 0 hF (le_down (down_all (ee_cons rfl rfl (Nat.le_of_ble_eq_true rfl) (ee_cons rfl rfl (cDat.ok_psl _ rfl) (ee_cons rfl rfl rfl (ee_cons rfl rfl rfl ee_nil)))) (he_cons rfl rfl rfl (row_one (cDat.row_ok _ rfl)) he_nil) rfl rfl rfl rfl)) ?_
  rintro lk_ x3 hF
  refine at_eq (s' := ⟨[(1, .ptr 3 1 0 0), (6, .psl 0 4 (d.items.map (cDat.enc 0))), (7, .int .i64 (d.items.length : Int)), (8, .int .i64 x3)], [(3, ⟨4, [cDat.row 0 d]⟩)], 4, 26, []⟩) rfl ?_
  replace hF : s_l1Nodes_L1b s_l1Nodes d (itr (s_l1Nodes_L1 s_l1Nodes d) lk_) x3 = some q := hF
  unfold s_l1Nodes_L1b at hF
  generalize itr (s_l1Nodes_L1 s_l1Nodes d) lk_ = go4 at hF ⊢
  refine at_seq ?_
  refine at_region ?_
  refine sxk 1 tabOK rfl ?_
  refine aops_nil ?_
  refine at_seq ?_
  refine ct_if hF rfl (fun hc hF => ?_) (fun hc hF => ?_)
  · refine at_skip ?_
    refine at_seq ?_
    refine at_block ?_
    refine at_seq ?_
    refine at_region ?_
    obtain ⟨x5, hn_x5, hF⟩ := bnd_some hF
    refine sv rfl (oc_addr cDat hn_x5 tabOK rfl rfl rfl rfl) rfl ?_
    refine sxk 3 tabOK rfl ?_
    refine aops_nil ?_
    refine at_seq ?_
    refine at_region ?_
    refine sxk 1 tabOK rfl ?_
    obtain ⟨x6, hx6, hF⟩ := bnd_some hF
    refine call_eq (h_s_l1Nodes x5 x6 hx6) rfl ((rlL_cons (cDat.rl_agg (l := 0) (l' := 0) _ x5 rfl) rlL_nil)) rfl rfl ?_
    refine sxk 1 tabOK rfl ?_
    refine aops_nil ?_
    refine ct_bn hF rfl (fun hc hF => ?_) (fun hc hF => ?_)
    · refine at_seq ?_
      refine at_keep [] rfl ?_
      refine at_region ?_
      refine sxk 1 tabOK rfl ?_
      refine aops_nil ?_
      refine at_ret ?_
      refine bk_r ?_
      refine tk_r ?_
      refine ll_r ?_
      refine bk_r ?_
      refine tk_r ?_
      obtain rfl := Option.some.inj hF
      refine ret_le rfl ?_
      exact (vle_refl _)
    · refine at_skip ?_
      refine bk_n ?_
      refine at_keep [1, 6, 7, 8] rfl ?_
      refine at_region ?_
      obtain ⟨hb, hF⟩ := chk_some hF
      refine s_add tabOK rfl rfl rfl hb rfl ?_
      refine sxk 1 tabOK rfl ?_
      refine aops_nil ?_
      exact arr_loop ⟨(x3 + 1), hF, (le_down (down_all (ee_cons rfl rfl (Nat.le_of_ble_eq_true rfl) (ee_cons rfl rfl (cDat.ok_psl _ rfl) (ee_cons rfl rfl rfl (ee_cons rfl rfl rfl ee_nil)))) (he_cons rfl rfl rfl (row_one (cDat.row_ok _ rfl)) he_nil) rfl rfl rfl rfl))⟩
  · refine at_exit ?_
    refine tk_x ?_
    refine ll_x ?_
    refine bk_hit ?_
    refine at_seq ?_
    refine at_region ?_
    refine sxk 8 tabOK rfl ?_
    refine sv rfl (oc_len cDat tabOK rfl rfl rfl) rfl ?_
    obtain ⟨x5, hx5, hF⟩ := bnd_some hF
    refine call_eq (s_l1Node_ok d.kind d.number d.text (d.items.length : Int) x5 hx5) rfl ((rlL_cons (rfl) (rlL_cons (rfl) (rlL_cons (rfl) (rlL_cons (rfl) rlL_nil))))) rfl rfl ?_
    refine sxk 1 tabOK rfl ?_
    refine aops_nil ?_
    refine at_ret ?_
    obtain rfl := Option.some.inj hF
    refine ret_le rfl ?_
    exact (vle_refl _)

theorem s_l1Nodes_all (n : Nat) : (∀ (d : PDat) (q : Bool), s_l1Nodes n d = some q → FC Try.prog 111 [.agg (cDat.row 0 d)] [] 3 (fun x _ => x = .bool q)) := by
  induction n with
  | zero => exact fun _ q h => by cases h
  | succ n ih => exact fun d q h => s_l1Nodes_bok (s_l1Nodes n) ih d q h

theorem s_l1Nodes_ok (n : Nat) (d : PDat) (q : Bool) (hF : s_l1Nodes n d = some q) : FC Try.prog 111 [.agg (cDat.row 0 d)] [] 3 (fun x _ => x = .bool q) := (s_l1Nodes_all n) d q hF

theorem s_DepthOf_bok (s_DepthOf : PDat → Option Int) (h_s_DepthOf : ∀ (d : PDat) (q : Int), s_DepthOf d = some q → FC Try.prog 110 [.agg (cDat.row 0 d)] [] 3 (fun x _ => x = .int .i64 q)) (d : PDat) (q : Int) (hF : s_DepthOf_b s_DepthOf d = some q) : FC Try.prog 110 [.agg (cDat.row 0 d)] [] 3 (fun x _ => x = .int .i64 q) := by
  refine FC.of_le ?_
  refine fc_body tabOK Try.func110 rfl Try.ntmps110 rfl rfl rfl ?_
  unfold s_DepthOf_b at hF
  refine at_seq ?_
  refine at_region ?_
  refine sxk 2 tabOK rfl ?_
  refine aops_nil ?_
  refine at_seq ?_
  refine at_region ?_
  refine sxk 1 tabOK rfl ?_
  refine aops_nil ?_
  refine at_seq ?_
  refine at_seq ?_
  refine at_region ?_
  refine sxk 2 tabOK rfl ?_
  refine sv rfl (oc_len cDat tabOK rfl rfl rfl) rfl ?_
  refine sxk 1 tabOK rfl ?_
  refine aops_nil ?_
  refine at_block ?_
  refine cl_loop (σ := Int × Int) (fun v => match v with | (x3, x4) => ⟨[(3, .int .i64 x3), (7, .psl 0 4 (d.items.map (cDat.enc 0))), (8, .int .i64 (d.items.length : Int)), (9, .int .i64 x4)], [], 4, 20, []⟩) (s_DepthOf_L1 s_DepthOf d) LF (0, 0) hF (le_down (down_all (ee_cons rfl rfl rfl (ee_cons rfl rfl (cDat.ok_psl _ rfl) (ee_cons rfl rfl rfl (ee_cons rfl rfl rfl ee_nil)))) he_nil rfl rfl rfl rfl)) ?_
  rintro lk_ ⟨x3, x4⟩ hF
  refine at_eq (s' := ⟨[(3, .int .i64 x3), (7, .psl 0 4 (d.items.map (cDat.enc 0))), (8, .int .i64 (d.items.length : Int)), (9, .int .i64 x4)], [], 4, 20, []⟩) rfl ?_
  replace hF : s_DepthOf_L1b s_DepthOf d (itr (s_DepthOf_L1 s_DepthOf d) lk_) x3 x4 = some q := hF
  unfold s_DepthOf_L1b at hF
  generalize itr (s_DepthOf_L1 s_DepthOf d) lk_ = go5 at hF ⊢
  refine at_seq ?_
  refine at_region ?_
  refine sxk 1 tabOK rfl ?_
  refine aops_nil ?_
  refine at_seq ?_
  refine ct_if hF rfl (fun hc hF => ?_) (fun hc hF => ?_)
  · refine at_skip ?_
    refine at_seq ?_
    refine at_block ?_
    refine at_seq ?_
    refine at_region ?_
    obtain ⟨x6, hn_x6, hF⟩ := bnd_some hF
    refine sv rfl (oc_addr cDat hn_x6 tabOK rfl rfl rfl rfl) rfl ?_
    refine sxk 3 tabOK rfl ?_
    refine aops_nil ?_
    refine at_region ?_
    refine sxk 2 tabOK rfl ?_
    obtain ⟨x7, hx7, hF⟩ := bnd_some hF
    refine call_eq (h_s_DepthOf x6 x7 hx7) rfl ((rlL_cons (cDat.rl_agg (l := 0) (l' := 0) _ x6 rfl) rlL_nil)) rfl rfl ?_
    refine sv rfl (ov_max rfl rfl) rfl ?_
    refine sxk 1 tabOK rfl ?_
    refine aops_nil ?_
    refine bk_n ?_
    refine at_keep [3, 7, 8, 9] rfl ?_
    refine at_region ?_
    obtain ⟨hb, hF⟩ := chk_some hF
    refine s_add tabOK rfl rfl rfl hb rfl ?_
    refine sxk 1 tabOK rfl ?_
    refine aops_nil ?_
    exact arr_loop ⟨((max x3 x7), (x4 + 1)), hF, (le_down (down_all (ee_cons rfl rfl rfl (ee_cons rfl rfl (cDat.ok_psl _ rfl) (ee_cons rfl rfl rfl (ee_cons rfl rfl rfl ee_nil)))) he_nil rfl rfl rfl rfl))⟩
  · refine at_exit ?_
    refine tk_x ?_
    refine ll_x ?_
    refine bk_hit ?_
    refine at_seq ?_
    refine at_region ?_
    refine sxk 1 tabOK rfl ?_
    obtain ⟨hb, hF⟩ := chk_some hF
    refine s_add tabOK rfl rfl rfl hb rfl ?_
    refine sxk 1 tabOK rfl ?_
    refine aops_nil ?_
    refine at_ret ?_
    obtain rfl := Option.some.inj hF
    refine ret_le rfl ?_
    exact (vle_refl _)

theorem s_DepthOf_all (n : Nat) : (∀ (d : PDat) (q : Int), s_DepthOf n d = some q → FC Try.prog 110 [.agg (cDat.row 0 d)] [] 3 (fun x _ => x = .int .i64 q)) := by
  induction n with
  | zero => exact fun _ q h => by cases h
  | succ n ih => exact fun d q h => s_DepthOf_bok (s_DepthOf n) ih d q h

theorem s_DepthOf_ok (n : Nat) (d : PDat) (q : Int) (hF : s_DepthOf n d = some q) : FC Try.prog 110 [.agg (cDat.row 0 d)] [] 3 (fun x _ => x = .int .i64 q) := (s_DepthOf_all n) d q hF

theorem s_l1Few_bok (s_l1Few : PDat → Int → Option (Bool × Int)) (h_s_l1Few : ∀ (d : PDat) (left : Int) (q : Bool × Int), s_l1Few d left = some q → FC Try.prog 109 [.agg (cDat.row 0 d), .ptr 0 1 0 0] [(0, ⟨1, [cInt.row 1 left]⟩)] 3 (fun x h2 => x = .bool q.1 ∧ hget h2 0 = some ⟨1, [cInt.row 1 q.2]⟩)) (d : PDat) (left : Int) (q : Bool × Int) (hF : s_l1Few_b s_l1Few d left = some q) : FC Try.prog 109 [.agg (cDat.row 0 d), .ptr 0 1 0 0] [(0, ⟨1, [cInt.row 1 left]⟩)] 3 (fun x h2 => x = .bool q.1 ∧ hget h2 0 = some ⟨1, [cInt.row 1 q.2]⟩) := by
  refine FC.of_le_lent ?_
  refine fc_body tabOK Try.func109 rfl Try.ntmps109 rfl rfl rfl ?_
  unfold s_l1Few_b at hF
  refine at_seq ?_
  refine at_region ?_
  refine sxk 2 tabOK rfl ?_
  refine aops_nil ?_
  refine at_seq ?_
  refine at_region ?_
  refine sxk 4 tabOK rfl ?_
  obtain ⟨hb, hF⟩ := chk_some hF
  refine s_sub tabOK rfl rfl rfl hb rfl ?_
  refine sxk 2 tabOK rfl ?_
  refine aops_nil ?_
  refine at_seq ?_
  refine at_seq ?_
  refine at_keep [1, 2] rfl ?_
  refine at_region ?_
  refine sxk 1 tabOK rfl ?_
  refine aops_nil ?_
  refine at_block ?_
  refine cl_loop (σ := Int × Int) (fun v => match v with | (i4, left5) => ⟨[(1, .ptr 0 1 0 0), (2, .ptr 3 1 0 0), (5, .int .i64 i4)], [(0, ⟨1, [[.int .i64 left5]]⟩), (3, ⟨4, [cDat.row 0 d]⟩)], 4, 36, []⟩) (s_l1Few_L1 s_l1Few d) LF (0, (left - 1)) hF (le_down (down_all (ee_cons rfl rfl (Nat.le_of_ble_eq_true rfl) (ee_cons rfl rfl (Nat.le_of_ble_eq_true rfl) (ee_cons rfl rfl rfl ee_nil))) (he_cons rfl rfl rfl (row_one ⟨rfl, trivial⟩) (he_cons rfl rfl rfl (row_one (cDat.row_ok _ rfl)) he_nil)) rfl rfl rfl rfl)) ?_
  rintro lk_ ⟨i4, left5⟩ hF
  refine at_eq (s' := ⟨[(1, .ptr 0 1 0 0), (2, .ptr 3 1 0 0), (5, .int .i64 i4)], [(0, ⟨1, [[.int .i64 left5]]⟩), (3, ⟨4, [cDat.row 0 d]⟩)], 4, 36, []⟩) rfl ?_
  replace hF : s_l1Few_L1b s_l1Few d (itr (s_l1Few_L1 s_l1Few d) lk_) i4 left5 = some q := hF
  unfold s_l1Few_L1b at hF
  generalize itr (s_l1Few_L1 s_l1Few d) lk_ = go6 at hF ⊢
  refine at_seq ?_
  refine at_seq ?_
  refine cl_midn (σ := Bool) (fun x7 => ⟨[(1, .ptr 0 1 0 0), (2, .ptr 3 1 0 0), (5, .int .i64 i4), (22, .bool x7)], [(0, ⟨1, [[.int .i64 left5]]⟩), (3, ⟨4, [cDat.row 0 d]⟩)], 4, 36, []⟩) (fun x7 => s_l1Few_J2 s_l1Few d i4 left5 go6 x7 = some q) ?_ ?_
  · refine at_region ?_
    refine sxk 3 tabOK rfl ?_
    refine sv rfl (oc_len cDat tabOK rfl rfl rfl) rfl ?_
    refine sxk 2 tabOK rfl ?_
    refine ops_if (g := 17) hF rfl (fun hc hF => ?_) (fun hc hF => ?_)
    · refine sxk 5 tabOK rfl ?_
      refine aops_nil ?_
      exact arr_cut ⟨(decide (left5 ≥ 0)), hF, (le_down (down_all (ee_cons rfl rfl (Nat.le_of_ble_eq_true rfl) (ee_cons rfl rfl (Nat.le_of_ble_eq_true rfl) (ee_cons rfl rfl rfl (ee_cons rfl rfl rfl ee_nil)))) (he_cons rfl rfl rfl (row_one ⟨rfl, trivial⟩) (he_cons rfl rfl rfl (row_one (cDat.row_ok _ rfl)) he_nil)) rfl rfl rfl rfl))⟩
    · refine sxk 5 tabOK rfl ?_
      refine aops_nil ?_
      exact arr_cut ⟨false, hF, (le_down (down_all (ee_cons rfl rfl (Nat.le_of_ble_eq_true rfl) (ee_cons rfl rfl (Nat.le_of_ble_eq_true rfl) (ee_cons rfl rfl rfl (ee_cons rfl rfl rfl ee_nil)))) (he_cons rfl rfl rfl (row_one ⟨rfl, trivial⟩) (he_cons rfl rfl rfl (row_one (cDat.row_ok _ rfl)) he_nil)) rfl rfl rfl rfl))⟩
  · rintro x7 hF
    refine at_eq (s' := ⟨[(1, .ptr 0 1 0 0), (2, .ptr 3 1 0 0), (5, .int .i64 i4), (22, .bool x7)], [(0, ⟨1, [[.int .i64 left5]]⟩), (3, ⟨4, [cDat.row 0 d]⟩)], 4, 36, []⟩) rfl ?_
    replace hF : s_l1Few_J2 s_l1Few d i4 left5 go6 x7 = some q := hF
    unfold s_l1Few_J2 at hF
    refine ct_b hF rfl (fun hc hF => ?_) (fun hc hF => ?_)
    · refine at_skip ?_
      refine at_seq ?_
      refine at_block ?_
      refine at_region ?_
      refine sxk 3 tabOK rfl ?_
      obtain ⟨x8, hn_x8, hF⟩ := bnd_some hF
      refine sv rfl (oc_addr cDat hn_x8 tabOK rfl rfl rfl rfl) rfl ?_
      refine sxk 2 tabOK rfl ?_
      obtain ⟨x9, hx9, hF⟩ := bnd_some hF
      refine call_lend1 0 (h_s_l1Few x8 left5 x9 hx9) rfl (rnL_cons (rn_of_rl _ (cDat.rl_agg (l := 0) (l' := 0) _ x8 rfl)) (rnL_cons rfl rnL_nil)) rfl rfl rfl rfl rfl ?_
      refine aops_nil ?_
      refine bk_n ?_
      refine at_keep [1, 2, 5] rfl ?_
      refine at_region ?_
      refine sxk 1 tabOK rfl ?_
      obtain ⟨hb, hF⟩ := chk_some hF
      refine s_add tabOK rfl rfl rfl hb rfl ?_
      refine sxk 1 tabOK rfl ?_
      refine aops_nil ?_
      exact arr_loop ⟨((i4 + 1), x9.2), hF, (le_down (down_all (ee_cons rfl rfl (Nat.le_of_ble_eq_true rfl) (ee_cons rfl rfl (Nat.le_of_ble_eq_true rfl) (ee_cons rfl rfl rfl ee_nil))) (he_cons rfl rfl rfl (row_one ⟨rfl, trivial⟩) (he_cons rfl rfl rfl (row_one (cDat.row_ok _ rfl)) he_nil)) rfl rfl rfl rfl))⟩
    · refine at_exit ?_
      refine tk_x ?_
      refine ll_x ?_
      refine bk_hit ?_
      refine at_seq ?_
      refine at_region ?_
      refine sxk 5 tabOK rfl ?_
      refine aops_nil ?_
      refine at_ret ?_
      obtain rfl := Option.some.inj hF
      exact ret_lent rfl ((vle_refl _)) rfl

theorem s_l1Few_all (n : Nat) : (∀ (d : PDat) (left : Int) (q : Bool × Int), s_l1Few n d left = some q → FC Try.prog 109 [.agg (cDat.row 0 d), .ptr 0 1 0 0] [(0, ⟨1, [cInt.row 1 left]⟩)] 3 (fun x h2 => x = .bool q.1 ∧ hget h2 0 = some ⟨1, [cInt.row 1 q.2]⟩)) := by
  induction n with
  | zero => exact fun _ _ q h => by cases h
  | succ n ih => exact fun d left q h => s_l1Few_bok (s_l1Few n) ih d left q h

theorem s_l1Few_ok (n : Nat) (d : PDat) (left : Int) (q : Bool × Int) (hF : s_l1Few n d left = some q) : FC Try.prog 109 [.agg (cDat.row 0 d), .ptr 0 1 0 0] [(0, ⟨1, [cInt.row 1 left]⟩)] 3 (fun x h2 => x = .bool q.1 ∧ hget h2 0 = some ⟨1, [cInt.row 1 q.2]⟩) := (s_l1Few_all n) d left q hF

theorem s_IsDatum_ok (d : PDat) (q : Bool) (hF : s_IsDatum d = some q) : FC Try.prog 70 [.agg (cDat.row 0 d)] [] 3 (fun x _ => x = .bool q) := by
  refine FC.of_le ?_
  refine fc_body tabOK Try.func70 rfl Try.ntmps70 rfl rfl rfl ?_
  unfold s_IsDatum at hF
  refine at_seq ?_
  refine at_region ?_
  refine sxk 2 tabOK rfl ?_
  refine aops_nil ?_
  refine at_seq ?_
  refine at_region ?_
  refine sxk 2 tabOK rfl ?_
  refine aops_nil ?_
  refine at_seq ?_
  refine at_region ?_
  refine sxk 1 tabOK rfl ?_
  obtain ⟨x2, hx2, hF⟩ := bnd_some hF
  refine call_lend1 4 (s_l1Few_ok RF d 600 x2 hx2) rfl (rnL_cons (rn_of_rl _ (cDat.rl_agg (l := 0) (l' := 0) _ d rfl)) (rnL_cons rfl rnL_nil)) rfl rfl rfl rfl rfl ?_
  refine sxk 1 tabOK rfl ?_
  refine ops_ifb (g := 6) hF rfl (fun hc hF => ?_) (fun hc hF => ?_)
  · refine sxk 1 tabOK rfl ?_
    obtain ⟨x3, hx3, hF⟩ := bnd_some hF
    refine call_eq (s_DepthOf_ok RF d x3 hx3) rfl ((rlL_cons (cDat.rl_agg (l := 0) (l' := 0) _ d rfl) rlL_nil)) rfl rfl ?_
    refine sxk 3 tabOK rfl ?_
    refine ops_if (g := 11) hF rfl (fun hc hF => ?_) (fun hc hF => ?_)
    · refine sxk 1 tabOK rfl ?_
      obtain ⟨x4, hx4, hF⟩ := bnd_some hF
      refine call_eq (s_l1Nodes_ok RF d x4 hx4) rfl ((rlL_cons (cDat.rl_agg (l := 0) (l' := 0) _ d rfl) rlL_nil)) rfl rfl ?_
      refine sxk 2 tabOK rfl ?_
      refine aops_nil ?_
      refine at_ret ?_
      obtain rfl := Option.some.inj hF
      refine ret_le rfl ?_
      exact (vle_refl _)
    · refine sxk 4 tabOK rfl ?_
      refine aops_nil ?_
      refine at_ret ?_
      obtain rfl := Option.some.inj hF
      refine ret_le rfl ?_
      exact (vle_refl _)
  · refine sxk 9 tabOK rfl ?_
    refine aops_nil ?_
    refine at_ret ?_
    obtain rfl := Option.some.inj hF
    refine ret_le rfl ?_
    exact (vle_refl _)

theorem s_PrimitiveNames_ok (q : List (List UInt8)) (hF : s_PrimitiveNames = some q) : FC Try.prog 102 [] [] 3 (fun x _ => x = .psl 1 1 (q.map (cStr.enc 1))) := by
  refine FC.of_le ?_
  refine fc_body tabOK Try.func102 rfl Try.ntmps102 rfl rfl rfl ?_
  unfold s_PrimitiveNames at hF
  refine at_seq ?_
  refine at_region ?_
  refine sxk 1 tabOK rfl ?_
  refine aops_nil ?_
  refine at_seq ?_
  refine at_region ?_
  refine sc_slit cStr (l := 0) ([([43] : List UInt8), ([45] : List UInt8), ([42] : List UInt8), ([61] : List UInt8), ([60] : List UInt8), ([99, 111, 110, 115] : List UInt8), ([99, 97, 114] : List UInt8), ([99, 100, 114] : List UInt8), ([110, 117, 108, 108, 63] : List UInt8), ([112, 97, 105, 114, 63] : List UInt8), ([110, 117, 109, 98, 101, 114, 63] : List UInt8), ([101, 113, 63] : List UInt8), ([110, 111, 116] : List UInt8), ([100, 105, 115, 112, 108, 97, 121] : List UInt8)] : List (List UInt8)) tabOK rfl rfl rfl rfl rfl rfl rfl ?_
  refine sxk 1 tabOK rfl ?_
  refine aops_nil ?_
  refine at_le (le_freeze 0 rfl rfl (by simp) rfl) ?_
  refine at_ret ?_
  obtain rfl := Option.some.inj hF
  refine ret_le rfl ?_
  exact (vle_refl _)

theorem s_l8Value_ok (x_1 : PVal) (pairs : Int) (q : Bool) (hF : s_l8Value x_1 pairs = some q) : FC Try.prog 59 [.agg (cVal.row 0 x_1), .int .i64 pairs] [] 3 (fun x _ => x = .bool q) := by
  refine FC.of_le ?_
  refine fc_body tabOK Try.func59 rfl Try.ntmps59 rfl rfl rfl ?_
  unfold s_l8Value at hF
  refine at_seq ?_
  refine at_region ?_
  refine sxk 2 tabOK rfl ?_
  refine aops_nil ?_
  refine at_seq ?_
  refine at_seq ?_
  refine at_region ?_
  refine sxk 2 tabOK rfl ?_
  refine aops_nil ?_
  refine at_block ?_
  refine at_seq ?_
  refine at_seq ?_
  refine at_region ?_
  refine sxk 2 tabOK rfl ?_
  refine aops_nil ?_
  refine ct_if hF rfl (fun hc hF => ?_) (fun hc hF => ?_)
  · refine at_skip ?_
    refine at_true rfl ?_
    refine at_seq ?_
    refine at_keep [2] rfl ?_
    refine at_region ?_
    refine sxk 4 tabOK rfl ?_
    refine ops_if (g := 13) hF rfl (fun hc hF => ?_) (fun hc hF => ?_)
    · refine sxk 5 tabOK rfl ?_
      refine aops_nil ?_
      refine at_ret ?_
      refine bk_r ?_
      refine tk_r ?_
      obtain rfl := Option.some.inj hF
      refine ret_le rfl ?_
      exact (vle_refl _)
    · refine sxk 5 tabOK rfl ?_
      refine aops_nil ?_
      refine at_ret ?_
      refine bk_r ?_
      refine tk_r ?_
      obtain rfl := Option.some.inj hF
      refine ret_le rfl ?_
      exact (vle_refl _)
  · refine at_region ?_
    refine sxk 2 tabOK rfl ?_
    refine aops_nil ?_
    refine ct_if hF rfl (fun hc hF => ?_) (fun hc hF => ?_)
    · refine at_seq ?_
      refine at_keep [2] rfl ?_
      refine at_region ?_
      refine sxk 4 tabOK rfl ?_
      refine ops_if (g := 13) hF rfl (fun hc hF => ?_) (fun hc hF => ?_)
      · refine sxk 5 tabOK rfl ?_
        refine aops_nil ?_
        refine at_ret ?_
        refine bk_r ?_
        refine tk_r ?_
        obtain rfl := Option.some.inj hF
        refine ret_le rfl ?_
        exact (vle_refl _)
      · refine sxk 5 tabOK rfl ?_
        refine aops_nil ?_
        refine at_ret ?_
        refine bk_r ?_
        refine tk_r ?_
        obtain rfl := Option.some.inj hF
        refine ret_le rfl ?_
        exact (vle_refl _)
    · refine at_seq ?_
      refine at_region ?_
      refine sxk 2 tabOK rfl ?_
      refine aops_nil ?_
      refine ct_if hF rfl (fun hc hF => ?_) (fun hc hF => ?_)
      · refine at_seq ?_
        refine at_keep [2] rfl ?_
        refine at_region ?_
        refine sxk 2 tabOK rfl ?_
        obtain ⟨x3, hx3, hF⟩ := bnd_some hF
        refine call_eq (s_l1In_ok x_1.number 0 1 x3 hx3) rfl ((rlL_cons (rfl) (rlL_cons (rfl) (rlL_cons (rfl) rlL_nil)))) rfl rfl ?_
        refine sxk 1 tabOK rfl ?_
        refine ops_ifb (g := 23) hF rfl (fun hc hF => ?_) (fun hc hF => ?_)
        · refine sxk 5 tabOK rfl ?_
          refine aops_nil ?_
          refine at_ret ?_
          refine bk_r ?_
          refine tk_r ?_
          obtain rfl := Option.some.inj hF
          refine ret_le rfl ?_
          exact (vle_refl _)
        · refine sxk 5 tabOK rfl ?_
          refine aops_nil ?_
          refine at_ret ?_
          refine bk_r ?_
          refine tk_r ?_
          obtain rfl := Option.some.inj hF
          refine ret_le rfl ?_
          exact (vle_refl _)
      · refine at_seq ?_
        refine at_keep [1, 2, 6] rfl ?_
        refine at_region ?_
        refine sxk 2 tabOK rfl ?_
        refine aops_nil ?_
        refine ct_if hF rfl (fun hc hF => ?_) (fun hc hF => ?_)
        · refine at_seq ?_
          refine at_region ?_
          refine sxk 2 tabOK rfl ?_
          obtain ⟨x3, hx3, hF⟩ := bnd_some hF
          refine call_eq (s_l1In_ok x_1.number (-999999999) 999999999 x3 hx3) rfl ((rlL_cons (rfl) (rlL_cons (rfl) (rlL_cons (rfl) rlL_nil)))) rfl rfl ?_
          refine sxk 1 tabOK rfl ?_
          refine ops_ifb (g := 33) hF rfl (fun hc hF => ?_) (fun hc hF => ?_)
          · refine sxk 5 tabOK rfl ?_
            refine aops_nil ?_
            refine at_ret ?_
            refine bk_r ?_
            refine tk_r ?_
            obtain rfl := Option.some.inj hF
            refine ret_le rfl ?_
            exact (vle_refl _)
          · refine sxk 5 tabOK rfl ?_
            refine aops_nil ?_
            refine at_ret ?_
            refine bk_r ?_
            refine tk_r ?_
            obtain rfl := Option.some.inj hF
            refine ret_le rfl ?_
            exact (vle_refl _)
        · refine at_seq ?_
          refine at_region ?_
          refine sxk 2 tabOK rfl ?_
          refine aops_nil ?_
          refine ct_if hF rfl (fun hc hF => ?_) (fun hc hF => ?_)
          · refine at_seq ?_
            refine at_region ?_
            refine sxk 4 tabOK rfl ?_
            refine ops_if (g := 43) hF rfl (fun hc hF => ?_) (fun hc hF => ?_)
            · refine sxk 2 tabOK rfl ?_
              obtain ⟨x3, hx3, hF⟩ := bnd_some hF
              refine call_eq (s_IsSymbol_ok x_1.text x3 hx3) rfl ((rlL_cons (rfl) rlL_nil)) rfl rfl ?_
              refine sxk 2 tabOK rfl ?_
              refine aops_nil ?_
              refine at_ret ?_
              refine bk_r ?_
              refine tk_r ?_
              obtain rfl := Option.some.inj hF
              refine ret_le rfl ?_
              exact (vle_refl _)
            · refine sxk 5 tabOK rfl ?_
              refine aops_nil ?_
              refine at_ret ?_
              refine bk_r ?_
              refine tk_r ?_
              obtain rfl := Option.some.inj hF
              refine ret_le rfl ?_
              exact (vle_refl _)
          · refine at_seq ?_
            refine at_region ?_
            refine sxk 2 tabOK rfl ?_
            refine aops_nil ?_
            refine ct_if hF rfl (fun hc hF => ?_) (fun hc hF => ?_)
            · refine at_seq ?_
              refine at_keep [2] rfl ?_
              refine at_region ?_
              refine sxk 4 tabOK rfl ?_
              refine ops_if (g := 53) hF rfl (fun hc hF => ?_) (fun hc hF => ?_)
              · refine sxk 2 tabOK rfl ?_
                obtain ⟨x3, hx3, hF⟩ := bnd_some hF
                refine call_eq (s_l1String_ok x_1.text x3 hx3) rfl ((rlL_cons (rfl) rlL_nil)) rfl rfl ?_
                refine sxk 2 tabOK rfl ?_
                refine aops_nil ?_
                refine at_ret ?_
                refine bk_r ?_
                refine tk_r ?_
                obtain rfl := Option.some.inj hF
                refine ret_le rfl ?_
                exact (vle_refl _)
              · refine sxk 5 tabOK rfl ?_
                refine aops_nil ?_
                refine at_ret ?_
                refine bk_r ?_
                refine tk_r ?_
                obtain rfl := Option.some.inj hF
                refine ret_le rfl ?_
                exact (vle_refl _)
            · refine at_seq ?_
              refine at_region ?_
              refine sxk 2 tabOK rfl ?_
              refine aops_nil ?_
              refine ct_if hF rfl (fun hc hF => ?_) (fun hc hF => ?_)
              · refine at_seq ?_
                refine at_keep [2] rfl ?_
                refine at_drawnM (id := 14) 5 (by kernel_rfl) (by kernel_rfl) ?_
                refine nx tabOK rfl ?_
                refine nx tabOK rfl ?_
                obtain ⟨x3, hx3, hF⟩ := bnd_some hF
                refine n_call (s_PrimitiveNames_ok  x3 hx3) rfl (rlL_nil) (cStr.rl_psl (l := 1) (l' := 1) _ x3 rfl) rfl ?_
                refine nv rfl (oc_len cStr tabOK rfl rfl rfl) rfl ?_
                obtain ⟨hb, hF⟩ := chk_some hF
                refine nv rfl (ov_sub tabOK rfl rfl hb) rfl ?_
                refine dn_nil rfl ?_
                obtain ⟨x4, hx4, hF⟩ := bnd_some hF
                refine call_eq (s_l1In_ok x_1.number 0 ((x3.length : Int) - 1) x4 hx4) rfl ((rlL_cons (rfl) (rlL_cons (rfl) (rlL_cons (rfl) rlL_nil)))) rfl rfl ?_
                refine sxk 1 tabOK rfl ?_
                refine ops_ifb (g := 66) hF rfl (fun hc hF => ?_) (fun hc hF => ?_)
                · refine sxk 5 tabOK rfl ?_
                  refine aops_nil ?_
                  refine at_ret ?_
                  refine bk_r ?_
                  refine tk_r ?_
                  obtain rfl := Option.some.inj hF
                  refine ret_le rfl ?_
                  exact (vle_refl _)
                · refine sxk 5 tabOK rfl ?_
                  refine aops_nil ?_
                  refine at_ret ?_
                  refine bk_r ?_
                  refine tk_r ?_
                  obtain rfl := Option.some.inj hF
                  refine ret_le rfl ?_
                  exact (vle_refl _)
              · refine at_seq ?_
                refine at_keep [1, 2, 6] rfl ?_
                refine at_region ?_
                refine sxk 2 tabOK rfl ?_
                refine aops_nil ?_
                refine ct_if hF rfl (fun hc hF => ?_) (fun hc hF => ?_)
                · refine at_seq ?_
                  refine at_region ?_
                  refine sxk 3 tabOK rfl ?_
                  obtain ⟨hb, hF⟩ := chk_some hF
                  refine s_sub tabOK rfl rfl rfl hb rfl ?_
                  obtain ⟨x3, hx3, hF⟩ := bnd_some hF
                  refine call_eq (s_l1In_ok x_1.number 0 (pairs - 1) x3 hx3) rfl ((rlL_cons (rfl) (rlL_cons (rfl) (rlL_cons (rfl) rlL_nil)))) rfl rfl ?_
                  refine sxk 1 tabOK rfl ?_
                  refine ops_ifb (g := 78) hF rfl (fun hc hF => ?_) (fun hc hF => ?_)
                  · refine sxk 5 tabOK rfl ?_
                    refine aops_nil ?_
                    refine at_ret ?_
                    refine bk_r ?_
                    refine tk_r ?_
                    obtain rfl := Option.some.inj hF
                    refine ret_le rfl ?_
                    exact (vle_refl _)
                  · refine sxk 5 tabOK rfl ?_
                    refine aops_nil ?_
                    refine at_ret ?_
                    refine bk_r ?_
                    refine tk_r ?_
                    obtain rfl := Option.some.inj hF
                    refine ret_le rfl ?_
                    exact (vle_refl _)
                · refine at_seq ?_
                  refine at_seq ?_
                  refine at_region ?_
                  refine sxk 2 tabOK rfl ?_
                  refine aops_nil ?_
                  refine ct_if hF rfl (fun hc hF => ?_) (fun hc hF => ?_)
                  · refine at_skip ?_
                    refine at_true rfl ?_
                    refine at_seq ?_
                    refine at_region ?_
                    refine sxk 2 tabOK rfl ?_
                    obtain ⟨x3, hx3, hF⟩ := bnd_some hF
                    refine call_eq (s_l1In_ok x_1.number 0 2000 x3 hx3) rfl ((rlL_cons (rfl) (rlL_cons (rfl) (rlL_cons (rfl) rlL_nil)))) rfl rfl ?_
                    refine sxk 1 tabOK rfl ?_
                    refine ops_ifb (g := 89) hF rfl (fun hc hF => ?_) (fun hc hF => ?_)
                    · refine sxk 5 tabOK rfl ?_
                      refine aops_nil ?_
                      refine at_ret ?_
                      refine bk_r ?_
                      refine tk_r ?_
                      obtain rfl := Option.some.inj hF
                      refine ret_le rfl ?_
                      exact (vle_refl _)
                    · refine sxk 5 tabOK rfl ?_
                      refine aops_nil ?_
                      refine at_ret ?_
                      refine bk_r ?_
                      refine tk_r ?_
                      obtain rfl := Option.some.inj hF
                      refine ret_le rfl ?_
                      exact (vle_refl _)
                  · refine at_region ?_
                    refine sxk 2 tabOK rfl ?_
                    refine aops_nil ?_
                    refine ct_if hF rfl (fun hc hF => ?_) (fun hc hF => ?_)
                    · refine at_seq ?_
                      refine at_keep [2] rfl ?_
                      refine at_region ?_
                      refine sxk 2 tabOK rfl ?_
                      obtain ⟨x3, hx3, hF⟩ := bnd_some hF
                      refine call_eq (s_l1In_ok x_1.number 0 2000 x3 hx3) rfl ((rlL_cons (rfl) (rlL_cons (rfl) (rlL_cons (rfl) rlL_nil)))) rfl rfl ?_
                      refine sxk 1 tabOK rfl ?_
                      refine ops_ifb (g := 89) hF rfl (fun hc hF => ?_) (fun hc hF => ?_)
                      · refine sxk 5 tabOK rfl ?_
                        refine aops_nil ?_
                        refine at_ret ?_
                        refine bk_r ?_
                        refine tk_r ?_
                        obtain rfl := Option.some.inj hF
                        refine ret_le rfl ?_
                        exact (vle_refl _)
                      · refine sxk 5 tabOK rfl ?_
                        refine aops_nil ?_
                        refine at_ret ?_
                        refine bk_r ?_
                        refine tk_r ?_
                        obtain rfl := Option.some.inj hF
                        refine ret_le rfl ?_
                        exact (vle_refl _)
                    · refine at_skip ?_
                      refine bk_n ?_
                      refine at_seq ?_
                      refine at_keep [] rfl ?_
                      refine at_region ?_
                      refine sxk 1 tabOK rfl ?_
                      refine aops_nil ?_
                      refine at_ret ?_
                      obtain rfl := Option.some.inj hF
                      refine ret_le rfl ?_
                      exact (vle_refl _)

theorem s_ArePairs_ok (pairs : List PPair) (q : Bool) (hF : s_ArePairs pairs = some q) : FC Try.prog 15 [.psl 0 6 (pairs.map (cPair.enc 0))] [] 3 (fun x _ => x = .bool q) := by
  refine FC.of_le ?_
  refine fc_body tabOK Try.func15 rfl Try.ntmps15 rfl rfl rfl ?_
  unfold s_ArePairs at hF
  refine at_seq ?_
  refine at_region ?_
  refine sxk 1 tabOK rfl ?_
  refine aops_nil ?_
  refine at_seq ?_
  refine at_seq ?_
  refine at_region ?_
  refine sxk 1 tabOK rfl ?_
  refine sv rfl (oc_len cPair tabOK rfl rfl rfl) rfl ?_
  refine sxk 1 tabOK rfl ?_
  refine aops_nil ?_
  refine at_block ?_
  refine cl_loop (σ := Int) (fun x2 => ⟨[(0, .psl 0 6 (pairs.map (cPair.enc 0))), (5, .psl 0 6 (pairs.map (cPair.enc 0))), (6, .int .i64 (pairs.length : Int)), (7, .int .i64 x2)], [], 3, 28, []⟩) (s_ArePairs_L1 pairs) LF 0 hF (le_down (down_all (ee_cons rfl rfl (cPair.ok_psl _ rfl) (ee_cons rfl rfl (cPair.ok_psl _ rfl) (ee_cons rfl rfl rfl (ee_cons rfl rfl rfl ee_nil)))) he_nil rfl rfl rfl rfl)) ?_
  rintro lk_ x2 hF
  refine at_eq (s' := ⟨[(0, .psl 0 6 (pairs.map (cPair.enc 0))), (5, .psl 0 6 (pairs.map (cPair.enc 0))), (6, .int .i64 (pairs.length : Int)), (7, .int .i64 x2)], [], 3, 28, []⟩) rfl ?_
  replace hF : s_ArePairs_L1b pairs (itr (s_ArePairs_L1 pairs) lk_) x2 = some q := hF
  unfold s_ArePairs_L1b at hF
  generalize itr (s_ArePairs_L1 pairs) lk_ = go3 at hF ⊢
  refine at_seq ?_
  refine at_region ?_
  refine sxk 1 tabOK rfl ?_
  refine aops_nil ?_
  refine at_seq ?_
  refine ct_if hF rfl (fun hc hF => ?_) (fun hc hF => ?_)
  · refine at_skip ?_
    refine at_seq ?_
    refine at_block ?_
    refine at_seq ?_
    refine at_region ?_
    refine sxk 1 tabOK rfl ?_
    obtain ⟨x4, hn_x4, hF⟩ := bnd_some hF
    refine sv rfl (oc_addr cPair hn_x4 tabOK rfl rfl rfl rfl) rfl ?_
    refine sxk 4 tabOK rfl ?_
    refine aops_nil ?_
    refine at_seq ?_
    refine at_region ?_
    refine sxk 3 tabOK rfl ?_
    obtain ⟨x5, hx5, hF⟩ := bnd_some hF
    refine call_eq (s_l8Value_ok x4.h x2 x5 hx5) rfl ((rlL_cons (cVal.rl_agg (l := 0) (l' := 0) _ x4.h rfl) (rlL_cons (rfl) rlL_nil))) rfl rfl ?_
    refine sxk 2 tabOK rfl ?_
    refine ops_ifnb (g := 17) hF rfl (fun hc hF => ?_) (fun hc hF => ?_)
    · refine sxk 6 tabOK rfl ?_
      refine aops_nil ?_
      refine at_true rfl ?_
      refine at_seq ?_
      refine at_keep [] rfl ?_
      refine at_region ?_
      refine sxk 1 tabOK rfl ?_
      refine aops_nil ?_
      refine at_ret ?_
      refine bk_r ?_
      refine tk_r ?_
      refine ll_r ?_
      refine bk_r ?_
      refine tk_r ?_
      obtain rfl := Option.some.inj hF
      refine ret_le rfl ?_
      exact (vle_refl _)
    · refine sxk 3 tabOK rfl ?_
      obtain ⟨x6, hx6, hF⟩ := bnd_some hF
      refine call_eq (s_l8Value_ok x4.t x2 x6 hx6) rfl ((rlL_cons (cVal.rl_agg (l := 0) (l' := 0) _ x4.t rfl) (rlL_cons (rfl) rlL_nil))) rfl rfl ?_
      refine sxk 2 tabOK rfl ?_
      refine aops_nil ?_
      refine ct_bn hF rfl (fun hc hF => ?_) (fun hc hF => ?_)
      · refine at_seq ?_
        refine at_keep [] rfl ?_
        refine at_region ?_
        refine sxk 1 tabOK rfl ?_
        refine aops_nil ?_
        refine at_ret ?_
        refine bk_r ?_
        refine tk_r ?_
        refine ll_r ?_
        refine bk_r ?_
        refine tk_r ?_
        obtain rfl := Option.some.inj hF
        refine ret_le rfl ?_
        exact (vle_refl _)
      · refine at_skip ?_
        refine bk_n ?_
        refine at_keep [0, 5, 6, 7, 18, 19, 20, 21, 22] rfl ?_
        refine at_region ?_
        obtain ⟨hb, hF⟩ := chk_some hF
        refine s_add tabOK rfl rfl rfl hb rfl ?_
        refine sxk 1 tabOK rfl ?_
        refine aops_nil ?_
        exact arr_loop ⟨(x2 + 1), hF, (le_down (down_all (ee_cons rfl rfl (cPair.ok_psl _ rfl) (ee_cons rfl rfl (cPair.ok_psl _ rfl) (ee_cons rfl rfl rfl (ee_cons rfl rfl rfl ee_nil)))) he_nil rfl rfl rfl rfl))⟩
  · refine at_exit ?_
    refine tk_x ?_
    refine ll_x ?_
    refine bk_hit ?_
    refine at_seq ?_
    refine at_region ?_
    refine sxk 1 tabOK rfl ?_
    refine sv rfl (oc_len cPair tabOK rfl rfl rfl) rfl ?_
    refine sxk 2 tabOK rfl ?_
    refine aops_nil ?_
    refine at_ret ?_
    obtain rfl := Option.some.inj hF
    refine ret_le rfl ?_
    exact (vle_refl _)

theorem s_l8Cells_bok (s_l8Cells : PDat → Option Int) (h_s_l8Cells : ∀ (d : PDat) (q : Int), s_l8Cells d = some q → FC Try.prog 71 [.agg (cDat.row 0 d)] [] 3 (fun x _ => x = .int .i64 q)) (d : PDat) (q : Int) (hF : s_l8Cells_b s_l8Cells d = some q) : FC Try.prog 71 [.agg (cDat.row 0 d)] [] 3 (fun x _ => x = .int .i64 q) := by
  refine FC.of_le ?_
  refine fc_body tabOK Try.func71 rfl Try.ntmps71 rfl rfl rfl ?_
  unfold s_l8Cells_b at hF
  refine at_seq ?_
  refine at_region ?_
  refine sxk 2 tabOK rfl ?_
  refine aops_nil ?_
  refine at_seq ?_
  refine at_region ?_
  refine sxk 1 tabOK rfl ?_
  refine aops_nil ?_
  refine at_seq ?_
  refine at_seq ?_
  refine at_region ?_
  refine sxk 2 tabOK rfl ?_
  refine sv rfl (oc_len cDat tabOK rfl rfl rfl) rfl ?_
  refine sxk 1 tabOK rfl ?_
  refine aops_nil ?_
  refine at_block ?_
  refine cl_loop (σ := Int × Int) (fun v => match v with | (x3, x4) => ⟨[(3, .int .i64 x3), (7, .psl 0 4 (d.items.map (cDat.enc 0))), (8, .int .i64 (d.items.length : Int)), (9, .int .i64 x4)], [], 4, 20, []⟩) (s_l8Cells_L1 s_l8Cells d) LF (0, 0) hF (le_down (down_all (ee_cons rfl rfl rfl (ee_cons rfl rfl (cDat.ok_psl _ rfl) (ee_cons rfl rfl rfl (ee_cons rfl rfl rfl ee_nil)))) he_nil rfl rfl rfl rfl)) ?_
  rintro lk_ ⟨x3, x4⟩ hF
  refine at_eq (s' := ⟨[(3, .int .i64 x3), (7, .psl 0 4 (d.items.map (cDat.enc 0))), (8, .int .i64 (d.items.length : Int)), (9, .int .i64 x4)], [], 4, 20, []⟩) rfl ?_
  replace hF : s_l8Cells_L1b s_l8Cells d (itr (s_l8Cells_L1 s_l8Cells d) lk_) x3 x4 = some q := hF
  unfold s_l8Cells_L1b at hF
  generalize itr (s_l8Cells_L1 s_l8Cells d) lk_ = go5 at hF ⊢
  refine at_seq ?_
  refine at_region ?_
  refine sxk 1 tabOK rfl ?_
  refine aops_nil ?_
  refine at_seq ?_
  refine ct_if hF rfl (fun hc hF => ?_) (fun hc hF => ?_)
  · refine at_skip ?_
    refine at_seq ?_
    refine at_block ?_
    refine at_seq ?_
    refine at_region ?_
    obtain ⟨x6, hn_x6, hF⟩ := bnd_some hF
    refine sv rfl (oc_addr cDat hn_x6 tabOK rfl rfl rfl rfl) rfl ?_
    refine sxk 3 tabOK rfl ?_
    refine aops_nil ?_
    refine at_region ?_
    refine sxk 1 tabOK rfl ?_
    obtain ⟨hb, hF⟩ := chk_some hF
    refine s_add tabOK rfl rfl rfl hb rfl ?_
    refine sxk 1 tabOK rfl ?_
    obtain ⟨x7, hx7, hF⟩ := bnd_some hF
    refine call_eq (h_s_l8Cells x6 x7 hx7) rfl ((rlL_cons (cDat.rl_agg (l := 0) (l' := 0) _ x6 rfl) rlL_nil)) rfl rfl ?_
    obtain ⟨hb, hF⟩ := chk_some hF
    refine s_add tabOK rfl rfl rfl hb rfl ?_
    refine sxk 1 tabOK rfl ?_
    refine aops_nil ?_
    refine bk_n ?_
    refine at_keep [3, 7, 8, 9] rfl ?_
    refine at_region ?_
    obtain ⟨hb, hF⟩ := chk_some hF
    refine s_add tabOK rfl rfl rfl hb rfl ?_
    refine sxk 1 tabOK rfl ?_
    refine aops_nil ?_
    exact arr_loop ⟨(((x3 + 1) + x7), (x4 + 1)), hF, (le_down (down_all (ee_cons rfl rfl rfl (ee_cons rfl rfl (cDat.ok_psl _ rfl) (ee_cons rfl rfl rfl (ee_cons rfl rfl rfl ee_nil)))) he_nil rfl rfl rfl rfl))⟩
  · refine at_exit ?_
    refine tk_x ?_
    refine ll_x ?_
    refine bk_hit ?_
    refine at_seq ?_
    refine at_region ?_
    refine sxk 2 tabOK rfl ?_
    refine aops_nil ?_
    refine at_ret ?_
    obtain rfl := Option.some.inj hF
    refine ret_le rfl ?_
    exact (vle_refl _)

theorem s_l8Cells_all (n : Nat) : (∀ (d : PDat) (q : Int), s_l8Cells n d = some q → FC Try.prog 71 [.agg (cDat.row 0 d)] [] 3 (fun x _ => x = .int .i64 q)) := by
  induction n with
  | zero => exact fun _ q h => by cases h
  | succ n ih => exact fun d q h => s_l8Cells_bok (s_l8Cells n) ih d q h

theorem s_l8Cells_ok (n : Nat) (d : PDat) (q : Int) (hF : s_l8Cells n d = some q) : FC Try.prog 71 [.agg (cDat.row 0 d)] [] 3 (fun x _ => x = .int .i64 q) := (s_l8Cells_all n) d q hF

end Go.Proofs.Ytiecdekmiabmkaa
