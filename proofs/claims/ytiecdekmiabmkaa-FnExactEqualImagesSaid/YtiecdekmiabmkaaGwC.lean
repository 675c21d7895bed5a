/-
  Walks, made by wip/gen: C
-/
import Derived.Test.YtiecdekmiabmkaaGpC
import Derived.Test.YtiecdekmiabmkaaGwB
set_option linter.unusedVariables false
set_option linter.unusedSimpArgs false
namespace Go.Proofs.Ytiecdekmiabmkaa
open Go.Abs
attribute [local irreducible] AT AOps FC DR DN
set_option maxRecDepth 10000
set_option maxHeartbeats 4000000

theorem s_l1In_ok (x_1 : Int) (a : Int) (b : Int) (q : Bool) (hF : s_l1In x_1 a b = some q) : FC Try.prog 80 [.int .i64 x_1, .int .i64 a, .int .i64 b] [] 3 (fun x _ => x = .bool q) := by
  refine FC.of_le ?_
  refine fc_body tabOK Try.func80 rfl Try.ntmps80 rfl rfl rfl ?_
  unfold s_l1In at hF
  refine at_seq ?_
  refine at_region ?_
  refine sxk 1 tabOK rfl ?_
  refine aops_nil ?_
  refine at_seq ?_
  refine at_region ?_
  refine sxk 4 tabOK rfl ?_
  refine ops_if (g := 10) hF rfl (fun hc hF => ?_) (fun hc hF => ?_)
  · refine sxk 5 tabOK rfl ?_
    refine aops_nil ?_
    refine at_ret ?_
    obtain rfl := Option.some.inj hF
    refine ret_le rfl ?_
    exact (vle_refl _)
  · refine sxk 5 tabOK rfl ?_
    refine aops_nil ?_
    refine at_ret ?_
    obtain rfl := Option.some.inj hF
    refine ret_le rfl ?_
    exact (vle_refl _)

theorem s_EqualData_bok (s_EqualData : PDat → PDat → Option Bool) (h_s_EqualData : ∀ (a : PDat) (b : PDat) (q : Bool), s_EqualData a b = some q → FC Try.prog 63 [.agg (cDat.row 0 a), .agg (cDat.row 0 b)] [] 3 (fun x _ => x = .bool q)) (a : PDat) (b : PDat) (q : Bool) (hF : s_EqualData_b s_EqualData a b = some q) : FC Try.prog 63 [.agg (cDat.row 0 a), .agg (cDat.row 0 b)] [] 3 (fun x _ => x = .bool q) := by
  refine FC.of_le ?_
  refine fc_body tabOK Try.func63 rfl Try.ntmps63 rfl rfl rfl ?_
  unfold s_EqualData_b at hF
  refine at_seq ?_
  refine at_region ?_
  refine sxk 3 tabOK rfl ?_
  refine aops_nil ?_
  refine at_seq ?_
  refine at_seq ?_
  refine at_region ?_
  refine sxk 6 tabOK rfl ?_
  refine ops_ifn (g := 11) hF rfl (fun hc hF => ?_) (fun hc hF => ?_)
  · refine sxk 22 tabOK rfl ?_
    refine aops_nil ?_
    refine at_true rfl ?_
    refine at_seq ?_
    refine at_keep [] rfl ?_
    refine at_region ?_
    refine sxk 1 tabOK rfl ?_
    refine aops_nil ?_
    refine at_ret ?_
    refine tk_r ?_
    obtain rfl := Option.some.inj hF
    refine ret_le rfl ?_
    exact (vle_refl _)
  · refine sxk 7 tabOK rfl ?_
    refine ops_ifn (g := 18) hF rfl (fun hc hF => ?_) (fun hc hF => ?_)
    · refine sxk 15 tabOK rfl ?_
      refine aops_nil ?_
      refine at_true rfl ?_
      refine at_seq ?_
      refine at_keep [] rfl ?_
      refine at_region ?_
      refine sxk 1 tabOK rfl ?_
      refine aops_nil ?_
      refine at_ret ?_
      refine tk_r ?_
      obtain rfl := Option.some.inj hF
      refine ret_le rfl ?_
      exact (vle_refl _)
    · refine sxk 7 tabOK rfl ?_
      refine ops_ifn (g := 25) hF rfl (fun hc hF => ?_) (fun hc hF => ?_)
      · refine sxk 8 tabOK rfl ?_
        refine aops_nil ?_
        refine at_true rfl ?_
        refine at_seq ?_
        refine at_keep [] rfl ?_
        refine at_region ?_
        refine sxk 1 tabOK rfl ?_
        refine aops_nil ?_
        refine at_ret ?_
        refine tk_r ?_
        obtain rfl := Option.some.inj hF
        refine ret_le rfl ?_
        exact (vle_refl _)
      · refine sxk 2 tabOK rfl ?_
        refine sv rfl (oc_len cDat tabOK rfl rfl rfl) rfl ?_
        refine sxk 2 tabOK rfl ?_
        refine sv rfl (oc_len cDat tabOK rfl rfl rfl) rfl ?_
        refine sxk 2 tabOK rfl ?_
        refine aops_nil ?_
        refine ct_ifn hF rfl (fun hc hF => ?_) (fun hc hF => ?_)
        · refine at_seq ?_
          refine at_keep [] rfl ?_
          refine at_region ?_
          refine sxk 1 tabOK rfl ?_
          refine aops_nil ?_
          refine at_ret ?_
          refine tk_r ?_
          obtain rfl := Option.some.inj hF
          refine ret_le rfl ?_
          exact (vle_refl _)
        · refine at_skip ?_
          refine at_seq ?_
          refine at_seq ?_
          refine at_keep [2, 3] rfl ?_
          refine at_region ?_
          refine sxk 2 tabOK rfl ?_
          refine sv rfl (oc_len cDat tabOK rfl rfl rfl) rfl ?_
          refine sxk 1 tabOK rfl ?_
          refine aops_nil ?_
          refine at_block ?_
          refine cl_loop (σ := Int) (fun x4 => ⟨[(2, .ptr 3 1 0 0), (3, .ptr 4 1 0 0), (36, .int .i64 (a.items.length : Int)), (37, .int .i64 x4)], [(3, ⟨4, [cDat.row 0 a]⟩), (4, ⟨4, [cDat.row 0 b]⟩)], 5, 53, []⟩) (s_EqualData_L1 s_EqualData a b) LF 0 hF (le_down (down_all (ee_cons rfl rfl (Nat.le_of_ble_eq_true rfl) (ee_cons rfl rfl (Nat.le_of_ble_eq_true rfl) (ee_cons rfl rfl rfl (ee_cons rfl rfl rfl ee_nil)))) (he_cons rfl rfl rfl (row_one (cDat.row_ok _ rfl)) (he_cons rfl rfl rfl (row_one (cDat.row_ok _ rfl)) he_nil)) rfl rfl rfl rfl)) ?_
          rintro lk_ x4 hF
          refine at_eq (s' := ⟨[(2, .ptr 3 1 0 0), (3, .ptr 4 1 0 0), (36, .int .i64 (a.items.length : Int)), (37, .int .i64 x4)], [(3, ⟨4, [cDat.row 0 a]⟩), (4, ⟨4, [cDat.row 0 b]⟩)], 5, 53, []⟩) rfl ?_
          replace hF : s_EqualData_L1b s_EqualData a b (itr (s_EqualData_L1 s_EqualData a b) lk_) x4 = some q := hF
          unfold s_EqualData_L1b at hF
          generalize itr (s_EqualData_L1 s_EqualData a b) lk_ = go5 at hF ⊢
          refine at_seq ?_
          refine at_region ?_
          refine sxk 1 tabOK rfl ?_
          refine aops_nil ?_
          refine at_seq ?_
          refine ct_if hF rfl (fun hc hF => ?_) (fun hc hF => ?_)
          · refine at_skip ?_
            refine at_seq ?_
            refine at_block ?_
            refine at_seq ?_
            refine at_region ?_
            refine sxk 2 tabOK rfl ?_
            refine aops_nil ?_
            refine at_seq ?_
            refine at_drawnM (id := 6) 10 (by kernel_rfl) (by kernel_rfl) ?_
            refine nx tabOK rfl ?_
            refine nx tabOK rfl ?_
            refine nx tabOK rfl ?_
            obtain ⟨x6, hn_x6, hF⟩ := bnd_some hF
            refine nv rfl (oc_addr cDat hn_x6 tabOK rfl rfl rfl rfl) rfl ?_
            refine nx tabOK rfl ?_
            refine nx tabOK rfl ?_
            refine nx tabOK rfl ?_
            refine nx tabOK rfl ?_
            obtain ⟨x7, hn_x7, hF⟩ := bnd_some hF
            refine nv rfl (oc_addr cDat hn_x7 tabOK rfl rfl rfl rfl) rfl ?_
            refine nx tabOK rfl ?_
            refine dn_nil rfl ?_
            obtain ⟨x8, hx8, hF⟩ := bnd_some hF
            refine call_eq (h_s_EqualData x6 x7 x8 hx8) rfl ((rlL_cons (cDat.rl_agg (l := 0) (l' := 0) _ x6 rfl) (rlL_cons (cDat.rl_agg (l := 0) (l' := 0) _ x7 rfl) rlL_nil))) rfl rfl ?_
            refine sxk 1 tabOK rfl ?_
            refine aops_nil ?_
            refine ct_bn hF rfl (fun hc hF => ?_) (fun hc hF => ?_)
            · refine at_seq ?_
              refine at_keep [] rfl ?_
              refine at_region ?_
              refine sxk 1 tabOK rfl ?_
              refine aops_nil ?_
              refine at_ret ?_
              refine bk_r ?_
              refine tk_r ?_
              refine ll_r ?_
              refine bk_r ?_
              refine tk_r ?_
              obtain rfl := Option.some.inj hF
              refine ret_le rfl ?_
              exact (vle_refl _)
            · refine at_skip ?_
              refine bk_n ?_
              refine at_keep [2, 3, 36, 37] rfl ?_
              refine at_region ?_
              obtain ⟨hb, hF⟩ := chk_some hF
              refine s_add tabOK rfl rfl rfl hb rfl ?_
              refine sxk 1 tabOK rfl ?_
              refine aops_nil ?_
              exact arr_loop ⟨(x4 + 1), hF, (le_down (down_all (ee_cons rfl rfl (Nat.le_of_ble_eq_true rfl) (ee_cons rfl rfl (Nat.le_of_ble_eq_true rfl) (ee_cons rfl rfl rfl (ee_cons rfl rfl rfl ee_nil)))) (he_cons rfl rfl rfl (row_one (cDat.row_ok _ rfl)) (he_cons rfl rfl rfl (row_one (cDat.row_ok _ rfl)) he_nil)) rfl rfl rfl rfl))⟩
          · refine at_exit ?_
            refine tk_x ?_
            refine ll_x ?_
            refine bk_hit ?_
            refine at_seq ?_
            refine at_region ?_
            refine sxk 1 tabOK rfl ?_
            refine aops_nil ?_
            refine at_ret ?_
            obtain rfl := Option.some.inj hF
            refine ret_le rfl ?_
            exact (vle_refl _)

theorem s_EqualData_all (n : Nat) : (∀ (a : PDat) (b : PDat) (q : Bool), s_EqualData n a b = some q → FC Try.prog 63 [.agg (cDat.row 0 a), .agg (cDat.row 0 b)] [] 3 (fun x _ => x = .bool q)) := by
  induction n with
  | zero => exact fun _ _ q h => by cases h
  | succ n ih => exact fun a b q h => s_EqualData_bok (s_EqualData n) ih a b q h

theorem s_EqualData_ok (n : Nat) (a : PDat) (b : PDat) (q : Bool) (hF : s_EqualData n a b = some q) : FC Try.prog 63 [.agg (cDat.row 0 a), .agg (cDat.row 0 b)] [] 3 (fun x _ => x = .bool q) := (s_EqualData_all n) a b q hF

theorem s_l1Digit_ok (b : Int) (q : Bool) (hF : s_l1Digit b = some q) : FC Try.prog 124 [.int .u8 b] [] 3 (fun x _ => x = .bool q) := by
  refine FC.of_le ?_
  refine fc_body tabOK Try.func124 rfl Try.ntmps124 rfl rfl rfl ?_
  unfold s_l1Digit at hF
  refine at_seq ?_
  refine at_region ?_
  refine sxk 1 tabOK rfl ?_
  refine aops_nil ?_
  refine at_seq ?_
  refine at_region ?_
  refine sxk 3 tabOK rfl ?_
  refine ops_if (g := 5) hF rfl (fun hc hF => ?_) (fun hc hF => ?_)
  · refine sxk 4 tabOK rfl ?_
    refine aops_nil ?_
    refine at_ret ?_
    obtain rfl := Option.some.inj hF
    refine ret_le rfl ?_
    exact (vle_refl _)
  · refine sxk 4 tabOK rfl ?_
    refine aops_nil ?_
    refine at_ret ?_
    obtain rfl := Option.some.inj hF
    refine ret_le rfl ?_
    exact (vle_refl _)

theorem s_l1Mark_ok (b : Int) (q : Bool) (hF : s_l1Mark b = some q) : FC Try.prog 125 [.int .u8 b] [] 3 (fun x _ => x = .bool q) := by
  refine FC.of_le ?_
  refine fc_body tabOK Try.func125 rfl Try.ntmps125 rfl rfl rfl ?_
  unfold s_l1Mark at hF
  refine at_seq ?_
  refine at_region ?_
  refine sxk 1 tabOK rfl ?_
  refine aops_nil ?_
  refine at_seq ?_
  refine at_seq ?_
  refine cl_midn (σ := Bool) (fun x2 => ⟨[(0, .int .u8 b), (14, .bool x2)], [], 3, 26, []⟩) (fun x2 => s_l1Mark_J1 b x2 = some q) ?_ ?_
  · refine at_region ?_
    refine sxk 3 tabOK rfl ?_
    refine ops_if (g := 7) hF rfl (fun hc hF => ?_) (fun hc hF => ?_)
    · refine sxk 4 tabOK rfl ?_
      refine ops_if (g := 11) hF rfl (fun hc hF => ?_) (fun hc hF => ?_)
      · refine sxk 3 tabOK rfl ?_
        refine aops_nil ?_
        exact arr_cut ⟨true, hF, (le_down (down_all (ee_cons rfl rfl rfl (ee_cons rfl rfl rfl ee_nil)) he_nil rfl rfl rfl rfl))⟩
      · refine sxk 1 tabOK rfl ?_
        obtain ⟨x2, hx2, hF⟩ := bnd_some hF
        refine call_eq (s_l1Digit_ok b x2 hx2) rfl ((rlL_cons (rfl) rlL_nil)) rfl rfl ?_
        refine sxk 1 tabOK rfl ?_
        refine aops_nil ?_
        exact arr_cut ⟨x2, hF, (le_down (down_all (ee_cons rfl rfl rfl (ee_cons rfl rfl rfl ee_nil)) he_nil rfl rfl rfl rfl))⟩
    · refine sxk 5 tabOK rfl ?_
      obtain ⟨x2, hx2, hF⟩ := bnd_some hF
      refine call_eq (s_l1Digit_ok b x2 hx2) rfl ((rlL_cons (rfl) rlL_nil)) rfl rfl ?_
      refine sxk 1 tabOK rfl ?_
      refine aops_nil ?_
      exact arr_cut ⟨x2, hF, (le_down (down_all (ee_cons rfl rfl rfl (ee_cons rfl rfl rfl ee_nil)) he_nil rfl rfl rfl rfl))⟩
  · rintro x2 hF
    refine at_eq (s' := ⟨[(0, .int .u8 b), (14, .bool x2)], [], 3, 26, []⟩) rfl ?_
    replace hF : s_l1Mark_J1 b x2 = some q := hF
    unfold s_l1Mark_J1 at hF
    refine ct_b hF rfl (fun hc hF => ?_) (fun hc hF => ?_)
    · refine at_seq ?_
      refine at_region ?_
      refine sxk 1 tabOK rfl ?_
      refine aops_nil ?_
      refine at_ret ?_
      refine tk_r ?_
      obtain rfl := Option.some.inj hF
      refine ret_le rfl ?_
      exact (vle_refl _)
    · refine at_skip ?_
      refine at_seq ?_
      refine at_region ?_
      refine sxk 1 tabOK rfl ?_
      refine aops_nil ?_
      refine at_seq ?_
      refine at_seq ?_
      refine at_region ?_
      refine sxk 1 tabOK rfl ?_
      refine aops_nil ?_
      refine at_block ?_
      refine cl_loop (σ := Int) (fun i3 => ⟨[(0, .int .u8 b), (3, .str ([33, 63, 42, 60, 62, 61, 47, 43, 45, 46, 95] : List UInt8)), (4, .int .i64 i3)], [], 3, 26, []⟩) (s_l1Mark_L2 b) LF 0 hF (le_down (down_all (ee_cons rfl rfl rfl (ee_cons rfl rfl rfl (ee_cons rfl rfl rfl ee_nil))) he_nil rfl rfl rfl rfl)) ?_
      rintro lk_ i3 hF
      refine at_eq (s' := ⟨[(0, .int .u8 b), (3, .str ([33, 63, 42, 60, 62, 61, 47, 43, 45, 46, 95] : List UInt8)), (4, .int .i64 i3)], [], 3, 26, []⟩) rfl ?_
      replace hF : s_l1Mark_L2b b (itr (s_l1Mark_L2 b) lk_) i3 = some q := hF
      unfold s_l1Mark_L2b at hF
      generalize itr (s_l1Mark_L2 b) lk_ = go4 at hF ⊢
      refine at_seq ?_
      refine at_seq ?_
      refine at_region ?_
      refine sxk 4 tabOK rfl ?_
      refine aops_nil ?_
      refine ct_if hF rfl (fun hc hF => ?_) (fun hc hF => ?_)
      · refine at_skip ?_
        refine at_seq ?_
        refine at_block ?_
        refine at_seq ?_
        refine at_region ?_
        refine sxk 2 tabOK rfl ?_
        obtain ⟨x5, hn_x5, hF⟩ := bnd_some hF
        refine sv rfl (oc_byte hn_x5 tabOK rfl rfl rfl) rfl ?_
        refine sxk 2 tabOK rfl ?_
        refine aops_nil ?_
        refine ct_if hF rfl (fun hc hF => ?_) (fun hc hF => ?_)
        · refine at_seq ?_
          refine at_keep [] rfl ?_
          refine at_region ?_
          refine sxk 1 tabOK rfl ?_
          refine aops_nil ?_
          refine at_ret ?_
          refine bk_r ?_
          refine tk_r ?_
          refine ll_r ?_
          refine bk_r ?_
          refine tk_r ?_
          obtain rfl := Option.some.inj hF
          refine ret_le rfl ?_
          exact (vle_refl _)
        · refine at_skip ?_
          refine bk_n ?_
          refine at_keep [0, 3, 4] rfl ?_
          refine at_region ?_
          refine sxk 1 tabOK rfl ?_
          obtain ⟨hb, hF⟩ := chk_some hF
          refine s_add tabOK rfl rfl rfl hb rfl ?_
          refine sxk 1 tabOK rfl ?_
          refine aops_nil ?_
          exact arr_loop ⟨(i3 + 1), hF, (le_down (down_all (ee_cons rfl rfl rfl (ee_cons rfl rfl rfl (ee_cons rfl rfl rfl ee_nil))) he_nil rfl rfl rfl rfl))⟩
      · refine at_exit ?_
        refine tk_x ?_
        refine ll_x ?_
        refine bk_hit ?_
        refine at_seq ?_
        refine at_keep [] rfl ?_
        refine at_region ?_
        refine sxk 1 tabOK rfl ?_
        refine aops_nil ?_
        refine at_ret ?_
        obtain rfl := Option.some.inj hF
        refine ret_le rfl ?_
        exact (vle_refl _)

theorem s_IsSymbol_ok (s : List UInt8) (q : Bool) (hF : s_IsSymbol s = some q) : FC Try.prog 100 [.str s] [] 3 (fun x _ => x = .bool q) := by
  refine FC.of_le ?_
  refine fc_body tabOK Try.func100 rfl Try.ntmps100 rfl rfl rfl ?_
  unfold s_IsSymbol at hF
  refine at_seq ?_
  refine at_region ?_
  refine sxk 1 tabOK rfl ?_
  refine aops_nil ?_
  refine at_seq ?_
  refine at_seq ?_
  refine cl_midn (σ := Bool) (fun x2 => ⟨[(0, .str s), (27, .bool x2)], [], 3, 39, []⟩) (fun x2 => s_IsSymbol_J1 s x2 = some q) ?_ ?_
  · refine at_region ?_
    refine sxk 2 tabOK rfl ?_
    obtain ⟨x2, hx2, hF⟩ := bnd_some hF
    refine call_eq (s_l1In_ok (s.length : Int) 1 16 x2 hx2) rfl ((rlL_cons (rfl) (rlL_cons (rfl) (rlL_cons (rfl) rlL_nil)))) rfl rfl ?_
    refine sxk 2 tabOK rfl ?_
    refine ops_ifnb (g := 8) hF rfl (fun hc hF => ?_) (fun hc hF => ?_)
    · refine sxk 19 tabOK rfl ?_
      refine aops_nil ?_
      exact arr_cut ⟨true, hF, (le_down (down_all (ee_cons rfl rfl rfl (ee_cons rfl rfl rfl ee_nil)) he_nil rfl rfl rfl rfl))⟩
    · refine sxk 1 tabOK rfl ?_
      obtain ⟨x3, hn_x3, hF⟩ := bnd_some hF
      refine sv rfl (oc_byte hn_x3 tabOK rfl rfl rfl) rfl ?_
      obtain ⟨x4, hx4, hF⟩ := bnd_some hF
      refine call_eq (s_l1Digit_ok (x3.toNat : Int) x4 hx4) rfl ((rlL_cons (rfl) rlL_nil)) rfl rfl ?_
      refine sxk 2 tabOK rfl ?_
      refine ops_ifb (g := 13) hF rfl (fun hc hF => ?_) (fun hc hF => ?_)
      · refine sxk 14 tabOK rfl ?_
        refine aops_nil ?_
        exact arr_cut ⟨true, hF, (le_down (down_all (ee_cons rfl rfl rfl (ee_cons rfl rfl rfl ee_nil)) he_nil rfl rfl rfl rfl))⟩
      · refine sxk 1 tabOK rfl ?_
        obtain ⟨x5, hn_x5, hF⟩ := bnd_some hF
        refine sv rfl (oc_byte hn_x5 tabOK rfl rfl rfl) rfl ?_
        refine sxk 2 tabOK rfl ?_
        refine ops_if (g := 17) hF rfl (fun hc hF => ?_) (fun hc hF => ?_)
        · refine sxk 5 tabOK rfl ?_
          refine ops_if (g := 22) hF rfl (fun hc hF => ?_) (fun hc hF => ?_)
          · refine sxk 1 tabOK rfl ?_
            obtain ⟨x6, hn_x6, hF⟩ := bnd_some hF
            refine sv rfl (oc_byte hn_x6 tabOK rfl rfl rfl) rfl ?_
            obtain ⟨x7, hx7, hF⟩ := bnd_some hF
            refine call_eq (s_l1Digit_ok (x6.toNat : Int) x7 hx7) rfl ((rlL_cons (rfl) rlL_nil)) rfl rfl ?_
            refine sxk 2 tabOK rfl ?_
            refine aops_nil ?_
            exact arr_cut ⟨x7, hF, (le_down (down_all (ee_cons rfl rfl rfl (ee_cons rfl rfl rfl ee_nil)) he_nil rfl rfl rfl rfl))⟩
          · refine sxk 5 tabOK rfl ?_
            refine aops_nil ?_
            exact arr_cut ⟨false, hF, (le_down (down_all (ee_cons rfl rfl rfl (ee_cons rfl rfl rfl ee_nil)) he_nil rfl rfl rfl rfl))⟩
        · refine sxk 10 tabOK rfl ?_
          refine aops_nil ?_
          exact arr_cut ⟨false, hF, (le_down (down_all (ee_cons rfl rfl rfl (ee_cons rfl rfl rfl ee_nil)) he_nil rfl rfl rfl rfl))⟩
  · rintro x2 hF
    refine at_eq (s' := ⟨[(0, .str s), (27, .bool x2)], [], 3, 39, []⟩) rfl ?_
    replace hF : s_IsSymbol_J1 s x2 = some q := hF
    unfold s_IsSymbol_J1 at hF
    refine ct_b hF rfl (fun hc hF => ?_) (fun hc hF => ?_)
    · refine at_seq ?_
      refine at_region ?_
      refine sxk 1 tabOK rfl ?_
      refine aops_nil ?_
      refine at_ret ?_
      refine tk_r ?_
      obtain rfl := Option.some.inj hF
      refine ret_le rfl ?_
      exact (vle_refl _)
    · refine at_skip ?_
      refine at_seq ?_
      refine at_seq ?_
      refine at_region ?_
      refine sxk 1 tabOK rfl ?_
      refine aops_nil ?_
      refine at_block ?_
      refine cl_loop (σ := Int) (fun i3 => ⟨[(0, .str s), (3, .int .i64 i3)], [], 3, 39, []⟩) (s_IsSymbol_L2 s) LF 0 hF (le_down (down_all (ee_cons rfl rfl rfl (ee_cons rfl rfl rfl ee_nil)) he_nil rfl rfl rfl rfl)) ?_
      rintro lk_ i3 hF
      refine at_eq (s' := ⟨[(0, .str s), (3, .int .i64 i3)], [], 3, 39, []⟩) rfl ?_
      replace hF : s_IsSymbol_L2b s (itr (s_IsSymbol_L2 s) lk_) i3 = some q := hF
      unfold s_IsSymbol_L2b at hF
      generalize itr (s_IsSymbol_L2 s) lk_ = go4 at hF ⊢
      refine at_seq ?_
      refine at_seq ?_
      refine at_region ?_
      refine sxk 4 tabOK rfl ?_
      refine aops_nil ?_
      refine ct_if hF rfl (fun hc hF => ?_) (fun hc hF => ?_)
      · refine at_skip ?_
        refine at_seq ?_
        refine at_block ?_
        refine at_seq ?_
        refine at_region ?_
        refine sxk 2 tabOK rfl ?_
        obtain ⟨x5, hn_x5, hF⟩ := bnd_some hF
        refine sv rfl (oc_byte hn_x5 tabOK rfl rfl rfl) rfl ?_
        obtain ⟨x6, hx6, hF⟩ := bnd_some hF
        refine call_eq (s_l1Mark_ok (x5.toNat : Int) x6 hx6) rfl ((rlL_cons (rfl) rlL_nil)) rfl rfl ?_
        refine sxk 1 tabOK rfl ?_
        refine aops_nil ?_
        refine ct_bn hF rfl (fun hc hF => ?_) (fun hc hF => ?_)
        · refine at_seq ?_
          refine at_keep [] rfl ?_
          refine at_region ?_
          refine sxk 1 tabOK rfl ?_
          refine aops_nil ?_
          refine at_ret ?_
          refine bk_r ?_
          refine tk_r ?_
          refine ll_r ?_
          refine bk_r ?_
          refine tk_r ?_
          obtain rfl := Option.some.inj hF
          refine ret_le rfl ?_
          exact (vle_refl _)
        · refine at_skip ?_
          refine bk_n ?_
          refine at_keep [0, 3] rfl ?_
          refine at_region ?_
          refine sxk 1 tabOK rfl ?_
          obtain ⟨hb, hF⟩ := chk_some hF
          refine s_add tabOK rfl rfl rfl hb rfl ?_
          refine sxk 1 tabOK rfl ?_
          refine aops_nil ?_
          exact arr_loop ⟨(i3 + 1), hF, (le_down (down_all (ee_cons rfl rfl rfl (ee_cons rfl rfl rfl ee_nil)) he_nil rfl rfl rfl rfl))⟩
      · refine at_exit ?_
        refine tk_x ?_
        refine ll_x ?_
        refine bk_hit ?_
        refine at_seq ?_
        refine at_region ?_
        refine sxk 1 tabOK rfl ?_
        refine aops_nil ?_
        refine at_ret ?_
        obtain rfl := Option.some.inj hF
        refine ret_le rfl ?_
        exact (vle_refl _)

theorem s_l1String_ok (s : List UInt8) (q : Bool) (hF : s_l1String s = some q) : FC Try.prog 101 [.str s] [] 3 (fun x _ => x = .bool q) := by
  refine FC.of_le ?_
  refine fc_body tabOK Try.func101 rfl Try.ntmps101 rfl rfl rfl ?_
  unfold s_l1String at hF
  refine at_seq ?_
  refine at_region ?_
  refine sxk 1 tabOK rfl ?_
  refine aops_nil ?_
  refine at_seq ?_
  refine at_seq ?_
  refine at_region ?_
  refine sxk 1 tabOK rfl ?_
  refine aops_nil ?_
  refine at_block ?_
  refine cl_loop (σ := Int) (fun i2 => ⟨[(0, .str s), (3, .int .i64 i2)], [], 3, 29, []⟩) (s_l1String_L1 s) LF 0 hF (le_down (down_all (ee_cons rfl rfl rfl (ee_cons rfl rfl rfl ee_nil)) he_nil rfl rfl rfl rfl)) ?_
  rintro lk_ i2 hF
  refine at_eq (s' := ⟨[(0, .str s), (3, .int .i64 i2)], [], 3, 29, []⟩) rfl ?_
  replace hF : s_l1String_L1b s (itr (s_l1String_L1 s) lk_) i2 = some q := hF
  unfold s_l1String_L1b at hF
  generalize itr (s_l1String_L1 s) lk_ = go3 at hF ⊢
  refine at_seq ?_
  refine at_seq ?_
  refine at_region ?_
  refine sxk 4 tabOK rfl ?_
  refine aops_nil ?_
  refine ct_if hF rfl (fun hc hF => ?_) (fun hc hF => ?_)
  · refine at_skip ?_
    refine at_seq ?_
    refine at_block ?_
    refine at_seq ?_
    refine at_region ?_
    refine sxk 2 tabOK rfl ?_
    obtain ⟨x4, hn_x4, hF⟩ := bnd_some hF
    refine sv rfl (oc_byte hn_x4 tabOK rfl rfl rfl) rfl ?_
    refine sxk 2 tabOK rfl ?_
    refine ops_if (g := 14) hF rfl (fun hc hF => ?_) (fun hc hF => ?_)
    · refine sxk 11 tabOK rfl ?_
      refine aops_nil ?_
      refine at_true rfl ?_
      refine at_seq ?_
      refine at_keep [] rfl ?_
      refine at_region ?_
      refine sxk 1 tabOK rfl ?_
      refine aops_nil ?_
      refine at_ret ?_
      refine bk_r ?_
      refine tk_r ?_
      refine ll_r ?_
      refine bk_r ?_
      refine tk_r ?_
      obtain rfl := Option.some.inj hF
      refine ret_le rfl ?_
      exact (vle_refl _)
    · refine sxk 2 tabOK rfl ?_
      obtain ⟨x5, hn_x5, hF⟩ := bnd_some hF
      refine sv rfl (oc_byte hn_x5 tabOK rfl rfl rfl) rfl ?_
      refine sxk 3 tabOK rfl ?_
      refine ops_if (g := 20) hF rfl (fun hc hF => ?_) (fun hc hF => ?_)
      · refine sxk 5 tabOK rfl ?_
        refine aops_nil ?_
        refine at_true rfl ?_
        refine at_seq ?_
        refine at_keep [] rfl ?_
        refine at_region ?_
        refine sxk 1 tabOK rfl ?_
        refine aops_nil ?_
        refine at_ret ?_
        refine bk_r ?_
        refine tk_r ?_
        refine ll_r ?_
        refine bk_r ?_
        refine tk_r ?_
        obtain rfl := Option.some.inj hF
        refine ret_le rfl ?_
        exact (vle_refl _)
      · refine sxk 2 tabOK rfl ?_
        obtain ⟨x6, hn_x6, hF⟩ := bnd_some hF
        refine sv rfl (oc_byte hn_x6 tabOK rfl rfl rfl) rfl ?_
        refine sxk 2 tabOK rfl ?_
        refine aops_nil ?_
        refine ct_if hF rfl (fun hc hF => ?_) (fun hc hF => ?_)
        · refine at_seq ?_
          refine at_keep [] rfl ?_
          refine at_region ?_
          refine sxk 1 tabOK rfl ?_
          refine aops_nil ?_
          refine at_ret ?_
          refine bk_r ?_
          refine tk_r ?_
          refine ll_r ?_
          refine bk_r ?_
          refine tk_r ?_
          obtain rfl := Option.some.inj hF
          refine ret_le rfl ?_
          exact (vle_refl _)
        · refine at_skip ?_
          refine bk_n ?_
          refine at_keep [0, 3, 15, 16, 17, 18, 21, 22, 23, 24] rfl ?_
          refine at_region ?_
          refine sxk 1 tabOK rfl ?_
          obtain ⟨hb, hF⟩ := chk_some hF
          refine s_add tabOK rfl rfl rfl hb rfl ?_
          refine sxk 1 tabOK rfl ?_
          refine aops_nil ?_
          exact arr_loop ⟨(i2 + 1), hF, (le_down (down_all (ee_cons rfl rfl rfl (ee_cons rfl rfl rfl ee_nil)) he_nil rfl rfl rfl rfl))⟩
  · refine at_exit ?_
    refine tk_x ?_
    refine ll_x ?_
    refine bk_hit ?_
    refine at_seq ?_
    refine at_region ?_
    refine sxk 4 tabOK rfl ?_
    refine aops_nil ?_
    refine at_ret ?_
    obtain rfl := Option.some.inj hF
    refine ret_le rfl ?_
    exact (vle_refl _)

theorem s_l1Node_ok (kind : Int) (number : Int) (text : List UInt8) (items : Int) (q : Bool) (hF : s_l1Node kind number text items = some q) : FC Try.prog 129 [.int .i64 kind, .int .i64 number, .str text, .int .i64 items] [] 3 (fun x _ => x = .bool q) := by
  refine FC.of_le ?_
  refine fc_body tabOK Try.func129 rfl Try.ntmps129 rfl rfl rfl ?_
  unfold s_l1Node at hF
  refine at_seq ?_
  refine at_region ?_
  refine sxk 1 tabOK rfl ?_
  refine aops_nil ?_
  refine at_seq ?_
  refine at_seq ?_
  refine at_region ?_
  refine sxk 1 tabOK rfl ?_
  refine aops_nil ?_
  refine at_block ?_
  refine at_seq ?_
  refine at_region ?_
  refine sxk 2 tabOK rfl ?_
  refine aops_nil ?_
  refine ct_if hF rfl (fun hc hF => ?_) (fun hc hF => ?_)
  · refine at_seq ?_
    refine at_region ?_
    refine sxk 3 tabOK rfl ?_
    refine ops_if (g := 14) hF rfl (fun hc hF => ?_) (fun hc hF => ?_)
    · refine sxk 4 tabOK rfl ?_
      refine aops_nil ?_
      refine at_ret ?_
      refine bk_r ?_
      refine tk_r ?_
      obtain rfl := Option.some.inj hF
      refine ret_le rfl ?_
      exact (vle_refl _)
    · refine sxk 4 tabOK rfl ?_
      refine aops_nil ?_
      refine at_ret ?_
      refine bk_r ?_
      refine tk_r ?_
      obtain rfl := Option.some.inj hF
      refine ret_le rfl ?_
      exact (vle_refl _)
  · refine at_seq ?_
    refine at_region ?_
    refine sxk 2 tabOK rfl ?_
    refine aops_nil ?_
    refine ct_if hF rfl (fun hc hF => ?_) (fun hc hF => ?_)
    · refine at_seq ?_
      refine at_keep [1, 2, 3] rfl ?_
      refine at_region ?_
      refine sxk 3 tabOK rfl ?_
      refine ops_if (g := 22) hF rfl (fun hc hF => ?_) (fun hc hF => ?_)
      · refine sxk 1 tabOK rfl ?_
        obtain ⟨x5, hx5, hF⟩ := bnd_some hF
        refine call_eq (s_IsSymbol_ok text x5 hx5) rfl ((rlL_cons (rfl) rlL_nil)) rfl rfl ?_
        refine sxk 2 tabOK rfl ?_
        refine ops_ifb (g := 26) hF rfl (fun hc hF => ?_) (fun hc hF => ?_)
        · refine sxk 4 tabOK rfl ?_
          refine aops_nil ?_
          refine at_ret ?_
          refine bk_r ?_
          refine tk_r ?_
          obtain rfl := Option.some.inj hF
          refine ret_le rfl ?_
          exact (vle_refl _)
        · refine sxk 4 tabOK rfl ?_
          refine aops_nil ?_
          refine at_ret ?_
          refine bk_r ?_
          refine tk_r ?_
          obtain rfl := Option.some.inj hF
          refine ret_le rfl ?_
          exact (vle_refl _)
      · refine sxk 8 tabOK rfl ?_
        refine aops_nil ?_
        refine at_ret ?_
        refine bk_r ?_
        refine tk_r ?_
        obtain rfl := Option.some.inj hF
        refine ret_le rfl ?_
        exact (vle_refl _)
    · refine at_seq ?_
      refine at_region ?_
      refine sxk 2 tabOK rfl ?_
      refine aops_nil ?_
      refine ct_if hF rfl (fun hc hF => ?_) (fun hc hF => ?_)
      · refine at_seq ?_
        refine at_keep [1, 2, 3] rfl ?_
        refine at_region ?_
        refine sxk 1 tabOK rfl ?_
        obtain ⟨x5, hx5, hF⟩ := bnd_some hF
        refine call_eq (s_l1In_ok number (-999999999) 999999999 x5 hx5) rfl ((rlL_cons (rfl) (rlL_cons (rfl) (rlL_cons (rfl) rlL_nil)))) rfl rfl ?_
        refine sxk 1 tabOK rfl ?_
        refine ops_ifb (g := 34) hF rfl (fun hc hF => ?_) (fun hc hF => ?_)
        · refine sxk 4 tabOK rfl ?_
          refine ops_if (g := 38) hF rfl (fun hc hF => ?_) (fun hc hF => ?_)
          · refine sxk 4 tabOK rfl ?_
            refine aops_nil ?_
            refine at_ret ?_
            refine bk_r ?_
            refine tk_r ?_
            obtain rfl := Option.some.inj hF
            refine ret_le rfl ?_
            exact (vle_refl _)
          · refine sxk 4 tabOK rfl ?_
            refine aops_nil ?_
            refine at_ret ?_
            refine bk_r ?_
            refine tk_r ?_
            obtain rfl := Option.some.inj hF
            refine ret_le rfl ?_
            exact (vle_refl _)
        · refine sxk 8 tabOK rfl ?_
          refine aops_nil ?_
          refine at_ret ?_
          refine bk_r ?_
          refine tk_r ?_
          obtain rfl := Option.some.inj hF
          refine ret_le rfl ?_
          exact (vle_refl _)
      · refine at_seq ?_
        refine at_keep [1, 2, 3, 9] rfl ?_
        refine at_region ?_
        refine sxk 2 tabOK rfl ?_
        refine aops_nil ?_
        refine ct_if hF rfl (fun hc hF => ?_) (fun hc hF => ?_)
        · refine at_seq ?_
          refine at_region ?_
          refine sxk 1 tabOK rfl ?_
          obtain ⟨x5, hx5, hF⟩ := bnd_some hF
          refine call_eq (s_l1In_ok number 0 1 x5 hx5) rfl ((rlL_cons (rfl) (rlL_cons (rfl) (rlL_cons (rfl) rlL_nil)))) rfl rfl ?_
          refine sxk 1 tabOK rfl ?_
          refine ops_ifb (g := 46) hF rfl (fun hc hF => ?_) (fun hc hF => ?_)
          · refine sxk 4 tabOK rfl ?_
            refine ops_if (g := 50) hF rfl (fun hc hF => ?_) (fun hc hF => ?_)
            · refine sxk 4 tabOK rfl ?_
              refine aops_nil ?_
              refine at_ret ?_
              refine bk_r ?_
              refine tk_r ?_
              obtain rfl := Option.some.inj hF
              refine ret_le rfl ?_
              exact (vle_refl _)
            · refine sxk 4 tabOK rfl ?_
              refine aops_nil ?_
              refine at_ret ?_
              refine bk_r ?_
              refine tk_r ?_
              obtain rfl := Option.some.inj hF
              refine ret_le rfl ?_
              exact (vle_refl _)
          · refine sxk 8 tabOK rfl ?_
            refine aops_nil ?_
            refine at_ret ?_
            refine bk_r ?_
            refine tk_r ?_
            obtain rfl := Option.some.inj hF
            refine ret_le rfl ?_
            exact (vle_refl _)
        · refine at_seq ?_
          refine at_region ?_
          refine sxk 2 tabOK rfl ?_
          refine aops_nil ?_
          refine ct_if hF rfl (fun hc hF => ?_) (fun hc hF => ?_)
          · refine at_seq ?_
            refine at_region ?_
            refine sxk 3 tabOK rfl ?_
            refine ops_if (g := 58) hF rfl (fun hc hF => ?_) (fun hc hF => ?_)
            · refine sxk 1 tabOK rfl ?_
              obtain ⟨x5, hx5, hF⟩ := bnd_some hF
              refine call_eq (s_l1String_ok text x5 hx5) rfl ((rlL_cons (rfl) rlL_nil)) rfl rfl ?_
              refine sxk 2 tabOK rfl ?_
              refine ops_ifb (g := 62) hF rfl (fun hc hF => ?_) (fun hc hF => ?_)
              · refine sxk 4 tabOK rfl ?_
                refine aops_nil ?_
                refine at_ret ?_
                refine bk_r ?_
                refine tk_r ?_
                obtain rfl := Option.some.inj hF
                refine ret_le rfl ?_
                exact (vle_refl _)
              · refine sxk 4 tabOK rfl ?_
                refine aops_nil ?_
                refine at_ret ?_
                refine bk_r ?_
                refine tk_r ?_
                obtain rfl := Option.some.inj hF
                refine ret_le rfl ?_
                exact (vle_refl _)
            · refine sxk 8 tabOK rfl ?_
              refine aops_nil ?_
              refine at_ret ?_
              refine bk_r ?_
              refine tk_r ?_
              obtain rfl := Option.some.inj hF
              refine ret_le rfl ?_
              exact (vle_refl _)
          · refine at_skip ?_
            refine bk_n ?_
            refine at_seq ?_
            refine at_keep [] rfl ?_
            refine at_region ?_
            refine sxk 1 tabOK rfl ?_
            refine aops_nil ?_
            refine at_ret ?_
            obtain rfl := Option.some.inj hF
            refine ret_le rfl ?_
            exact (vle_refl _)

theorem s_l1Nodes_bok (s_l1Nodes : PDat → Option Bool) (h_s_l1Nodes : ∀ (d : PDat) (q : Bool), s_l1Nodes d = some q → FC Try.prog 111 [.agg (cDat.row 0 d)] [] 3 (fun x _ => x = .bool q)) (d : PDat) (q : Bool) (hF : s_l1Nodes_b s_l1Nodes d = some q) : FC Try.prog 111 [.agg (cDat.row 0 d)] [] 3 (fun x _ => x = .bool q) := by
  refine FC.of_le ?_
  refine fc_body tabOK Try.func111 rfl Try.ntmps111 rfl rfl rfl ?_
  unfold s_l1Nodes_b at hF
  refine at_seq ?_
  refine at_region ?_
  refine sxk 2 tabOK rfl ?_
  refine aops_nil ?_
  refine at_seq ?_
  refine at_seq ?_
  refine at_region ?_
  refine sxk 2 tabOK rfl ?_
  refine sv rfl (oc_len cDat tabOK rfl rfl rfl) rfl ?_
  refine sxk 1 tabOK rfl ?_
  refine aops_nil ?_
  refine at_block ?_
  refine cl_loop (σ := Int) (fun x3 => ⟨[(1, .ptr 3 1 0 0), (6, .psl 0 4 (d.items.map (cDat.enc 0))), (7, .int .i64 (d.items.length : Int)), (8, .int .i64 x3)], [(3, ⟨4, [cDat.row 0 d]⟩)], 4, 26, []⟩) (s_l1Nodes_L1 s_l1Nodes d) LF 0 hF (le_down (down_all (ee_cons rfl rfl (Nat.le_of_ble_eq_true rfl) (ee_cons rfl rfl (cDat.ok_psl _ rfl) (ee_cons rfl rfl rfl (ee_cons rfl rfl rfl ee_nil)))) (he_cons rfl rfl rfl (row_one (cDat.row_ok _ rfl)) he_nil) rfl rfl rfl rfl)) ?_
  rintro lk_ x3 hF
  refine at_eq (s' := ⟨[(1, .ptr 3 1 0 0), (6, .psl 0 4 (d.items.map (cDat.enc 0))), (7, .int .i64 (d.items.length : Int)), (8, .int .i64 x3)], [(3, ⟨4, [cDat.row 0 d]⟩)], 4, 26, []⟩) rfl ?_
  replace hF : s_l1Nodes_L1b s_l1Nodes d (itr (s_l1Nodes_L1 s_l1Nodes d) lk_) x3 = some q := hF
  unfold s_l1Nodes_L1b at hF
  generalize itr (s_l1Nodes_L1 s_l1Nodes d) lk_ = go4 at hF ⊢
  refine at_seq ?_
  refine at_region ?_
  refine sxk 1 tabOK rfl ?_
  refine aops_nil ?_
  refine at_seq ?_
  refine ct_if hF rfl (fun hc hF => ?_) (fun hc hF => ?_)
  · refine at_skip ?_
    refine at_seq ?_
    refine at_block ?_
    refine at_seq ?_
    refine at_region ?_
    obtain ⟨x5, hn_x5, hF⟩ := bnd_some hF
    refine sv rfl (oc_addr cDat hn_x5 tabOK rfl rfl rfl rfl) rfl ?_
    refine sxk 3 tabOK rfl ?_
    refine aops_nil ?_
    refine at_seq ?_
    refine at_region ?_
    refine sxk 1 tabOK rfl ?_
    obtain ⟨x6, hx6, hF⟩ := bnd_some hF
    refine call_eq (h_s_l1Nodes x5 x6 hx6) rfl ((rlL_cons (cDat.rl_agg (l := 0) (l' := 0) _ x5 rfl) rlL_nil)) rfl rfl ?_
    refine sxk 1 tabOK rfl ?_
    refine aops_nil ?_
    refine ct_bn hF rfl (fun hc hF => ?_) (fun hc hF => ?_)
    · refine at_seq ?_
      refine at_keep [] rfl ?_
      refine at_region ?_
      refine sxk 1 tabOK rfl ?_
      refine aops_nil ?_
      refine at_ret ?_
      refine bk_r ?_
      refine tk_r ?_
      refine ll_r ?_
      refine bk_r ?_
      refine tk_r ?_
      obtain rfl := Option.some.inj hF
      refine ret_le rfl ?_
      exact (vle_refl _)
    · refine at_skip ?_
      refine bk_n ?_
      refine at_keep [1, 6, 7, 8] rfl ?_
      refine at_region ?_
      obtain ⟨hb, hF⟩ := chk_some hF
      refine s_add tabOK rfl rfl rfl hb rfl ?_
      refine sxk 1 tabOK rfl ?_
      refine aops_nil ?_
      exact arr_loop ⟨(x3 + 1), hF, (le_down (down_all (ee_cons rfl rfl (Nat.le_of_ble_eq_true rfl) (ee_cons rfl rfl (cDat.ok_psl _ rfl) (ee_cons rfl rfl rfl (ee_cons rfl rfl rfl ee_nil)))) (he_cons rfl rfl rfl (row_one (cDat.row_ok _ rfl)) he_nil) rfl rfl rfl rfl))⟩
  · refine at_exit ?_
    refine tk_x ?_
    refine ll_x ?_
    refine bk_hit ?_
    refine at_seq ?_
    refine at_region ?_
    refine sxk 8 tabOK rfl ?_
    refine sv rfl (oc_len cDat tabOK rfl rfl rfl) rfl ?_
    obtain ⟨x5, hx5, hF⟩ := bnd_some hF
    refine call_eq (s_l1Node_ok d.kind d.number d.text (d.items.length : Int) x5 hx5) rfl ((rlL_cons (rfl) (rlL_cons (rfl) (rlL_cons (rfl) (rlL_cons (rfl) rlL_nil))))) rfl rfl ?_
    refine sxk 1 tabOK rfl ?_
    refine aops_nil ?_
    refine at_ret ?_
    obtain rfl := Option.some.inj hF
    refine ret_le rfl ?_
    exact (vle_refl _)

theorem s_l1Nodes_all (n : Nat) : (∀ (d : PDat) (q : Bool), s_l1Nodes n d = some q → FC Try.prog 111 [.agg (cDat.row 0 d)] [] 3 (fun x _ => x = .bool q)) := by
  induction n with
  | zero => exact fun _ q h => by cases h
  | succ n ih => exact fun d q h => s_l1Nodes_bok (s_l1Nodes n) ih d q h

theorem s_l1Nodes_ok (n : Nat) (d : PDat) (q : Bool) (hF : s_l1Nodes n d = some q) : FC Try.prog 111 [.agg (cDat.row 0 d)] [] 3 (fun x _ => x = .bool q) := (s_l1Nodes_all n) d q hF

theorem s_DepthOf_bok (s_DepthOf : PDat → Option Int) (h_s_DepthOf : ∀ (d : PDat) (q : Int), s_DepthOf d = some q → FC Try.prog 110 [.agg (cDat.row 0 d)] [] 3 (fun x _ => x = .int .i64 q)) (d : PDat) (q : Int) (hF : s_DepthOf_b s_DepthOf d = some q) : FC Try.prog 110 [.agg (cDat.row 0 d)] [] 3 (fun x _ => x = .int .i64 q) := by
  refine FC.of_le ?_
  refine fc_body tabOK Try.func110 rfl Try.ntmps110 rfl rfl rfl ?_
  unfold s_DepthOf_b at hF
  refine at_seq ?_
  refine at_region ?_
  refine sxk 2 tabOK rfl ?_
  refine aops_nil ?_
  refine at_seq ?_
  refine at_region ?_
  refine sxk 1 tabOK rfl ?_
  refine aops_nil ?_
  refine at_seq ?_
  refine at_seq ?_
  refine at_region ?_
  refine sxk 2 tabOK rfl ?_
  refine sv rfl (oc_len cDat tabOK rfl rfl rfl) rfl ?_
  refine sxk 1 tabOK rfl ?_
  refine aops_nil ?_
  refine at_block ?_
  refine cl_loop (σ := Int × Int) (fun v => match v with | (x3, x4) => ⟨[(3, .int .i64 x3), (7, .psl 0 4 (d.items.map (cDat.enc 0))), (8, .int .i64 (d.items.length : Int)), (9, .int .i64 x4)], [], 4, 20, []⟩) (s_DepthOf_L1 s_DepthOf d) LF (0, 0) hF (le_down (down_all (ee_cons rfl rfl rfl (ee_cons rfl rfl (cDat.ok_psl _ rfl) (ee_cons rfl rfl rfl (ee_cons rfl rfl rfl ee_nil)))) he_nil rfl rfl rfl rfl)) ?_
  rintro lk_ ⟨x3, x4⟩ hF
  refine at_eq (s' := ⟨[(3, .int .i64 x3), (7, .psl 0 4 (d.items.map (cDat.enc 0))), (8, .int .i64 (d.items.length : Int)), (9, .int .i64 x4)], [], 4, 20, []⟩) rfl ?_
  replace hF : s_DepthOf_L1b s_DepthOf d (itr (s_DepthOf_L1 s_DepthOf d) lk_) x3 x4 = some q := hF
  unfold s_DepthOf_L1b at hF
  generalize itr (s_DepthOf_L1 s_DepthOf d) lk_ = go5 at hF ⊢
  refine at_seq ?_
  refine at_region ?_
  refine sxk 1 tabOK rfl ?_
  refine aops_nil ?_
  refine at_seq ?_
  refine ct_if hF rfl (fun hc hF => ?_) (fun hc hF => ?_)
  · refine at_skip ?_
    refine at_seq ?_
    refine at_block ?_
    refine at_seq ?_
    refine at_region ?_
    obtain ⟨x6, hn_x6, hF⟩ := bnd_some hF
    refine sv rfl (oc_addr cDat hn_x6 tabOK rfl rfl rfl rfl) rfl ?_
    refine sxk 3 tabOK rfl ?_
    refine aops_nil ?_
    refine at_region ?_
    refine sxk 2 tabOK rfl ?_
    obtain ⟨x7, hx7, hF⟩ := bnd_some hF
    refine call_eq (h_s_DepthOf x6 x7 hx7) rfl ((rlL_cons (cDat.rl_agg (l := 0) (l' := 0) _ x6 rfl) rlL_nil)) rfl rfl ?_
    refine sv rfl (ov_max rfl rfl) rfl ?_
    refine sxk 1 tabOK rfl ?_
    refine aops_nil ?_
    refine bk_n ?_
    refine at_keep [3, 7, 8, 9] rfl ?_
    refine at_region ?_
    obtain ⟨hb, hF⟩ := chk_some hF
    refine s_add tabOK rfl rfl rfl hb rfl ?_
    refine sxk 1 tabOK rfl ?_
    refine aops_nil ?_
    exact arr_loop ⟨((max x3 x7), (x4 + 1)), hF, (le_down (down_all (ee_cons rfl rfl rfl (ee_cons rfl rfl (cDat.ok_psl _ rfl) (ee_cons rfl rfl rfl (ee_cons rfl rfl rfl ee_nil)))) he_nil rfl rfl rfl rfl))⟩
  · refine at_exit ?_
    refine tk_x ?_
    refine ll_x ?_
    refine bk_hit ?_
    refine at_seq ?_
    refine at_region ?_
    refine sxk 1 tabOK rfl ?_
    obtain ⟨hb, hF⟩ := chk_some hF
    refine s_add tabOK rfl rfl rfl hb rfl ?_
    refine sxk 1 tabOK rfl ?_
    refine aops_nil ?_
    refine at_ret ?_
    obtain rfl := Option.some.inj hF
    refine ret_le rfl ?_
    exact (vle_refl _)

theorem s_DepthOf_all (n : Nat) : (∀ (d : PDat) (q : Int), s_DepthOf n d = some q → FC Try.prog 110 [.agg (cDat.row 0 d)] [] 3 (fun x _ => x = .int .i64 q)) := by
  induction n with
  | zero => exact fun _ q h => by cases h
  | succ n ih => exact fun d q h => s_DepthOf_bok (s_DepthOf n) ih d q h

theorem s_DepthOf_ok (n : Nat) (d : PDat) (q : Int) (hF : s_DepthOf n d = some q) : FC Try.prog 110 [.agg (cDat.row 0 d)] [] 3 (fun x _ => x = .int .i64 q) := (s_DepthOf_all n) d q hF

theorem s_l1Few_bok (s_l1Few : PDat → Int → Option (Bool × Int)) (h_s_l1Few : ∀ (d : PDat) (left : Int) (q : Bool × Int), s_l1Few d left = some q → FC Try.prog 109 [.agg (cDat.row 0 d), .ptr 0 1 0 0] [(0, ⟨1, [cInt.row 1 left]⟩)] 3 (fun x h2 => x = .bool q.1 ∧ hget h2 0 = some ⟨1, [cInt.row 1 q.2]⟩)) (d : PDat) (left : Int) (q : Bool × Int) (hF : s_l1Few_b s_l1Few d left = some q) : FC Try.prog 109 [.agg (cDat.row 0 d), .ptr 0 1 0 0] [(0, ⟨1, [cInt.row 1 left]⟩)] 3 (fun x h2 => x = .bool q.1 ∧ hget h2 0 = some ⟨1, [cInt.row 1 q.2]⟩) := by
  refine FC.of_le_lent ?_
  refine fc_body tabOK Try.func109 rfl Try.ntmps109 rfl rfl rfl ?_
  unfold s_l1Few_b at hF
  refine at_seq ?_
  refine at_region ?_
  refine sxk 2 tabOK rfl ?_
  refine aops_nil ?_
  refine at_seq ?_
  refine at_region ?_
  refine sxk 4 tabOK rfl ?_
  obtain ⟨hb, hF⟩ := chk_some hF
  refine s_sub tabOK rfl rfl rfl hb rfl ?_
  refine sxk 2 tabOK rfl ?_
  refine aops_nil ?_
  refine at_seq ?_
  refine at_seq ?_
  refine at_keep [1, 2] rfl ?_
  refine at_region ?_
  refine sxk 1 tabOK rfl ?_
  refine aops_nil ?_
  refine at_block ?_
  refine cl_loop (σ := Int × Int) (fun v => match v with | (i4, left5) => ⟨[(1, .ptr 0 1 0 0), (2, .ptr 3 1 0 0), (5, .int .i64 i4)], [(0, ⟨1, [[.int .i64 left5]]⟩), (3, ⟨4, [cDat.row 0 d]⟩)], 4, 36, []⟩) (s_l1Few_L1 s_l1Few d) LF (0, (left - 1)) hF (le_down (down_all (ee_cons rfl rfl (Nat.le_of_ble_eq_true rfl) (ee_cons rfl rfl (Nat.le_of_ble_eq_true rfl) (ee_cons rfl rfl rfl ee_nil))) (he_cons rfl rfl rfl (row_one ⟨rfl, trivial⟩) (he_cons rfl rfl rfl (row_one (cDat.row_ok _ rfl)) he_nil)) rfl rfl rfl rfl)) ?_
  rintro lk_ ⟨i4, left5⟩ hF
  refine at_eq (s' := ⟨[(1, .ptr 0 1 0 0), (2, .ptr 3 1 0 0), (5, .int .i64 i4)], [(0, ⟨1, [[.int .i64 left5]]⟩), (3, ⟨4, [cDat.row 0 d]⟩)], 4, 36, []⟩) rfl ?_
  replace hF : s_l1Few_L1b s_l1Few d (itr (s_l1Few_L1 s_l1Few d) lk_) i4 left5 = some q := hF
  unfold s_l1Few_L1b at hF
  generalize itr (s_l1Few_L1 s_l1Few d) lk_ = go6 at hF ⊢
  refine at_seq ?_
  refine at_seq ?_
  refine cl_midn (σ := Bool) (fun x7 => ⟨[(1, .ptr 0 1 0 0), (2, .ptr 3 1 0 0), (5, .int .i64 i4), (22, .bool x7)], [(0, ⟨1, [[.int .i64 left5]]⟩), (3, ⟨4, [cDat.row 0 d]⟩)], 4, 36, []⟩) (fun x7 => s_l1Few_J2 s_l1Few d i4 left5 go6 x7 = some q) ?_ ?_
  · refine at_region ?_
    refine sxk 3 tabOK rfl ?_
    refine sv rfl (oc_len cDat tabOK rfl rfl rfl) rfl ?_
    refine sxk 2 tabOK rfl ?_
    refine ops_if (g := 17) hF rfl (fun hc hF => ?_) (fun hc hF => ?_)
    · refine sxk 5 tabOK rfl ?_
      refine aops_nil ?_
      exact arr_cut ⟨(decide (left5 ≥ 0)), hF, (le_down (down_all (ee_cons rfl rfl (Nat.le_of_ble_eq_true rfl) (ee_cons rfl rfl (Nat.le_of_ble_eq_true rfl) (ee_cons rfl rfl rfl (ee_cons rfl rfl rfl ee_nil)))) (he_cons rfl rfl rfl (row_one ⟨rfl, trivial⟩) (he_cons rfl rfl rfl (row_one (cDat.row_ok _ rfl)) he_nil)) rfl rfl rfl rfl))⟩
    · refine sxk 5 tabOK rfl ?_
      refine aops_nil ?_
      exact arr_cut ⟨false, hF, (le_down (down_all (ee_cons rfl rfl (Nat.le_of_ble_eq_true rfl) (ee_cons rfl rfl (Nat.le_of_ble_eq_true rfl) (ee_cons rfl rfl rfl (ee_cons rfl rfl rfl ee_nil)))) (he_cons rfl rfl rfl (row_one ⟨rfl, trivial⟩) (he_cons rfl rfl rfl (row_one (cDat.row_ok _ rfl)) he_nil)) rfl rfl rfl rfl))⟩
  · rintro x7 hF
    refine at_eq (s' := ⟨[(1, .ptr 0 1 0 0), (2, .ptr 3 1 0 0), (5, .int .i64 i4), (22, .bool x7)], [(0, ⟨1, [[.int .i64 left5]]⟩), (3, ⟨4, [cDat.row 0 d]⟩)], 4, 36, []⟩) rfl ?_
    replace hF : s_l1Few_J2 s_l1Few d i4 left5 go6 x7 = some q := hF
    unfold s_l1Few_J2 at hF
    refine ct_b hF rfl (fun hc hF => ?_) (fun hc hF => ?_)
    · refine at_skip ?_
      refine at_seq ?_
      refine at_block ?_
      refine at_region ?_
      refine sxk 3 tabOK rfl ?_
      obtain ⟨x8, hn_x8, hF⟩ := bnd_some hF
      refine sv rfl (oc_addr cDat hn_x8 tabOK rfl rfl rfl rfl) rfl ?_
      refine sxk 2 tabOK rfl ?_
      obtain ⟨x9, hx9, hF⟩ := bnd_some hF
      refine call_lend1 0 (h_s_l1Few x8 left5 x9 hx9) rfl (rnL_cons (rn_of_rl _ (cDat.rl_agg (l := 0) (l' := 0) _ x8 rfl)) (rnL_cons rfl rnL_nil)) rfl rfl rfl rfl rfl ?_
      refine aops_nil ?_
      refine bk_n ?_
      refine at_keep [1, 2, 5] rfl ?_
      refine at_region ?_
      refine sxk 1 tabOK rfl ?_
      obtain ⟨hb, hF⟩ := chk_some hF
      refine s_add tabOK rfl rfl rfl hb rfl ?_
      refine sxk 1 tabOK rfl ?_
      refine aops_nil ?_
      exact arr_loop ⟨((i4 + 1), x9.2), hF, (le_down (down_all (ee_cons rfl rfl (Nat.le_of_ble_eq_true rfl) (ee_cons rfl rfl (Nat.le_of_ble_eq_true rfl) (ee_cons rfl rfl rfl ee_nil))) (he_cons rfl rfl rfl (row_one ⟨rfl, trivial⟩) (he_cons rfl rfl rfl (row_one (cDat.row_ok _ rfl)) he_nil)) rfl rfl rfl rfl))⟩
    · refine at_exit ?_
      refine tk_x ?_
      refine ll_x ?_
      refine bk_hit ?_
      refine at_seq ?_
      refine at_region ?_
      refine sxk 5 tabOK rfl ?_
      refine aops_nil ?_
      refine at_ret ?_
      obtain rfl := Option.some.inj hF
      exact ret_lent rfl ((vle_refl _)) rfl

theorem s_l1Few_all (n : Nat) : (∀ (d : PDat) (left : Int) (q : Bool × Int), s_l1Few n d left = some q → FC Try.prog 109 [.agg (cDat.row 0 d), .ptr 0 1 0 0] [(0, ⟨1, [cInt.row 1 left]⟩)] 3 (fun x h2 => x = .bool q.1 ∧ hget h2 0 = some ⟨1, [cInt.row 1 q.2]⟩)) := by
  induction n with
  | zero => exact fun _ _ q h => by cases h
  | succ n ih => exact fun d left q h => s_l1Few_bok (s_l1Few n) ih d left q h

theorem s_l1Few_ok (n : Nat) (d : PDat) (left : Int) (q : Bool × Int) (hF : s_l1Few n d left = some q) : FC Try.prog 109 [.agg (cDat.row 0 d), .ptr 0 1 0 0] [(0, ⟨1, [cInt.row 1 left]⟩)] 3 (fun x h2 => x = .bool q.1 ∧ hget h2 0 = some ⟨1, [cInt.row 1 q.2]⟩) := (s_l1Few_all n) d left q hF

theorem s_IsDatum_ok (d : PDat) (q : Bool) (hF : s_IsDatum d = some q) : FC Try.prog 70 [.agg (cDat.row 0 d)] [] 3 (fun x _ => x = .bool q) := by
  refine FC.of_le ?_
  refine fc_body tabOK Try.func70 rfl Try.ntmps70 rfl rfl rfl ?_
  unfold s_IsDatum at hF
  refine at_seq ?_
  refine at_region ?_
  refine sxk 2 tabOK rfl ?_
  refine aops_nil ?_
  refine at_seq ?_
  refine at_region ?_
  refine sxk 2 tabOK rfl ?_
  refine aops_nil ?_
  refine at_seq ?_
  refine at_region ?_
  refine sxk 1 tabOK rfl ?_
  obtain ⟨x2, hx2, hF⟩ := bnd_some hF
  refine call_lend1 4 (s_l1Few_ok RF d 600 x2 hx2) rfl (rnL_cons (rn_of_rl _ (cDat.rl_agg (l := 0) (l' := 0) _ d rfl)) (rnL_cons rfl rnL_nil)) rfl rfl rfl rfl rfl ?_
  refine sxk 1 tabOK rfl ?_
  refine ops_ifb (g := 6) hF rfl (fun hc hF => ?_) (fun hc hF => ?_)
  · refine sxk 1 tabOK rfl ?_
    obtain ⟨x3, hx3, hF⟩ := bnd_some hF
    refine call_eq (s_DepthOf_ok RF d x3 hx3) rfl ((rlL_cons (cDat.rl_agg (l := 0) (l' := 0) _ d rfl) rlL_nil)) rfl rfl ?_
    refine sxk 3 tabOK rfl ?_
    refine ops_if (g := 11) hF rfl (fun hc hF => ?_) (fun hc hF => ?_)
    · refine sxk 1 tabOK rfl ?_
      obtain ⟨x4, hx4, hF⟩ := bnd_some hF
      refine call_eq (s_l1Nodes_ok RF d x4 hx4) rfl ((rlL_cons (cDat.rl_agg (l := 0) (l' := 0) _ d rfl) rlL_nil)) rfl rfl ?_
      refine sxk 2 tabOK rfl ?_
      refine aops_nil ?_
      refine at_ret ?_
      obtain rfl := Option.some.inj hF
      refine ret_le rfl ?_
      exact (vle_refl _)
    · refine sxk 4 tabOK rfl ?_
      refine aops_nil ?_
      refine at_ret ?_
      obtain rfl := Option.some.inj hF
      refine ret_le rfl ?_
      exact (vle_refl _)
  · refine sxk 9 tabOK rfl ?_
    refine aops_nil ?_
    refine at_ret ?_
    obtain rfl := Option.some.inj hF
    refine ret_le rfl ?_
    exact (vle_refl _)

theorem s_PrimitiveNames_ok (q : List (List UInt8)) (hF : s_PrimitiveNames = some q) : FC Try.prog 102 [] [] 3 (fun x _ => x = .psl 1 1 (q.map (cStr.enc 1))) := by
  refine FC.of_le ?_
  refine fc_body tabOK Try.func102 rfl Try.ntmps102 rfl rfl rfl ?_
  unfold s_PrimitiveNames at hF
  refine at_seq ?_
  refine at_region ?_
  refine sxk 1 tabOK rfl ?_
  refine aops_nil ?_
  refine at_seq ?_
  refine at_region ?_
  refine sc_slit cStr (l := 0) ([([43] : List UInt8), ([45] : List UInt8), ([42] : List UInt8), ([61] : List UInt8), ([60] : List UInt8), ([99, 111, 110, 115] : List UInt8), ([99, 97, 114] : List UInt8), ([99, 100, 114] : List UInt8), ([110, 117, 108, 108, 63] : List UInt8), ([112, 97, 105, 114, 63] : List UInt8), ([110, 117, 109, 98, 101, 114, 63] : List UInt8), ([101, 113, 63] : List UInt8), ([110, 111, 116] : List UInt8), ([100, 105, 115, 112, 108, 97, 121] : List UInt8)] : List (List UInt8)) tabOK rfl rfl rfl rfl rfl rfl rfl ?_
  refine sxk 1 tabOK rfl ?_
  refine aops_nil ?_
  refine at_le (le_freeze 0 rfl rfl (by simp) rfl) ?_
  refine at_ret ?_
  obtain rfl := Option.some.inj hF
  refine ret_le rfl ?_
  exact (vle_refl _)

theorem s_l10Plain_ok (op : Int) (q : Bool) (hF : s_l10Plain op = some q) : FC Try.prog 131 [.int .i64 op] [] 3 (fun x _ => x = .bool q) := by
  refine FC.of_le ?_
  refine fc_body tabOK Try.func131 rfl Try.ntmps131 rfl rfl rfl ?_
  unfold s_l10Plain at hF
  refine at_seq ?_
  refine at_region ?_
  refine sxk 1 tabOK rfl ?_
  refine aops_nil ?_
  refine at_seq ?_
  refine at_region ?_
  refine sxk 3 tabOK rfl ?_
  refine ops_if (g := 5) hF rfl (fun hc hF => ?_) (fun hc hF => ?_)
  · refine sxk 4 tabOK rfl ?_
    refine aops_nil ?_
    refine at_ret ?_
    obtain rfl := Option.some.inj hF
    refine ret_le rfl ?_
    exact (vle_refl _)
  · refine sxk 4 tabOK rfl ?_
    refine aops_nil ?_
    refine at_ret ?_
    obtain rfl := Option.some.inj hF
    refine ret_le rfl ?_
    exact (vle_refl _)

theorem s_l10Instr_ok (x_1 : PInstr) (q : Bool) (hF : s_l10Instr x_1 = some q) : FC Try.prog 113 [.agg (cInstr.row 0 x_1)] [] 3 (fun x _ => x = .bool q) := by
  refine FC.of_le ?_
  refine fc_body tabOK Try.func113 rfl Try.ntmps113 rfl rfl rfl ?_
  unfold s_l10Instr at hF
  refine at_seq ?_
  refine at_region ?_
  refine sxk 2 tabOK rfl ?_
  refine aops_nil ?_
  refine at_seq ?_
  refine at_seq ?_
  refine at_region ?_
  refine sxk 2 tabOK rfl ?_
  obtain ⟨x2, hx2, hF⟩ := bnd_some hF
  refine call_eq (s_l1In_ok x_1.op 1 20 x2 hx2) rfl ((rlL_cons (rfl) (rlL_cons (rfl) (rlL_cons (rfl) rlL_nil)))) rfl rfl ?_
  refine sxk 1 tabOK rfl ?_
  refine aops_nil ?_
  refine ct_bn hF rfl (fun hc hF => ?_) (fun hc hF => ?_)
  · refine at_seq ?_
    refine at_keep [] rfl ?_
    refine at_region ?_
    refine sxk 1 tabOK rfl ?_
    refine aops_nil ?_
    refine at_ret ?_
    refine tk_r ?_
    obtain rfl := Option.some.inj hF
    refine ret_le rfl ?_
    exact (vle_refl _)
  · refine at_skip ?_
    refine at_seq ?_
    refine at_seq ?_
    refine at_region ?_
    refine sxk 3 tabOK rfl ?_
    refine aops_nil ?_
    refine ct_if hF rfl (fun hc hF => ?_) (fun hc hF => ?_)
    · refine at_seq ?_
      refine at_keep [1] rfl ?_
      refine at_region ?_
      refine sxk 4 tabOK rfl ?_
      refine ops_if (g := 13) hF rfl (fun hc hF => ?_) (fun hc hF => ?_)
      · refine sxk 2 tabOK rfl ?_
        obtain ⟨x3, hx3, hF⟩ := bnd_some hF
        refine call_eq (s_IsDatum_ok x_1.d x3 hx3) rfl ((rlL_cons (cDat.rl_agg (l := 0) (l' := 0) _ x_1.d rfl) rlL_nil)) rfl rfl ?_
        refine sxk 2 tabOK rfl ?_
        refine aops_nil ?_
        refine at_ret ?_
        refine tk_r ?_
        obtain rfl := Option.some.inj hF
        refine ret_le rfl ?_
        exact (vle_refl _)
      · refine sxk 5 tabOK rfl ?_
        refine aops_nil ?_
        refine at_ret ?_
        refine tk_r ?_
        obtain rfl := Option.some.inj hF
        refine ret_le rfl ?_
        exact (vle_refl _)
    · refine at_skip ?_
      refine at_seq ?_
      refine at_keep [1] rfl ?_
      refine at_region ?_
      refine sxk 2 tabOK rfl ?_
      refine sv rfl (ov_build tabOK rfl rfl) rfl ?_
      refine ops_le (le_slot (y := .agg [.int .i64 0, .int .i64 0, .str ([] : List UInt8), .psl 1 4 ([].map (cDat.enc 1))]) 20 rfl (vle_agg (.cons (vle_refl _) (.cons (vle_refl _) (.cons (vle_refl _) (.cons (vle_nil _ _) .nil))))) rfl) ?_
      obtain ⟨x3, hx3, hF⟩ := bnd_some hF
      refine call_eq (s_EqualData_ok RF x_1.d (PDat.mk 0 0 ([] : List UInt8) []) x3 hx3) rfl ((rlL_cons (cDat.rl_agg (l := 0) (l' := 0) _ x_1.d rfl) (rlL_cons (rl_aggL (rlL_cons (rfl) (rlL_cons (rfl) (rlL_cons (rfl) (rlL_cons (cDat.rl_psl (l := 1) (l' := 0) _ [] rfl) rlL_nil))))) rlL_nil))) rfl rfl ?_
      refine sxk 1 tabOK rfl ?_
      refine ops_ifb (g := 22) hF rfl (fun hc hF => ?_) (fun hc hF => ?_)
      · refine sxk 2 tabOK rfl ?_
        obtain ⟨x4, hx4, hF⟩ := bnd_some hF
        refine call_eq (s_l1In_ok x_1.a 0 4000 x4 hx4) rfl ((rlL_cons (rfl) (rlL_cons (rfl) (rlL_cons (rfl) rlL_nil)))) rfl rfl ?_
        refine sxk 2 tabOK rfl ?_
        refine ops_ifb (g := 27) hF rfl (fun hc hF => ?_) (fun hc hF => ?_)
        · refine sxk 4 tabOK rfl ?_
          refine ops_if (g := 31) hF rfl (fun hc hF => ?_) (fun hc hF => ?_)
          · refine sxk 7 tabOK rfl ?_
            refine aops_nil ?_
            refine at_ret ?_
            obtain rfl := Option.some.inj hF
            refine ret_le rfl ?_
            exact (vle_refl _)
          · refine sxk 2 tabOK rfl ?_
            obtain ⟨x5, hx5, hF⟩ := bnd_some hF
            refine call_eq (s_l10Plain_ok x_1.op x5 hx5) rfl ((rlL_cons (rfl) rlL_nil)) rfl rfl ?_
            refine sxk 4 tabOK rfl ?_
            refine aops_nil ?_
            refine at_ret ?_
            obtain rfl := Option.some.inj hF
            refine ret_le rfl ?_
            exact (vle_refl _)
        · refine sxk 11 tabOK rfl ?_
          refine aops_nil ?_
          refine at_ret ?_
          obtain rfl := Option.some.inj hF
          refine ret_le rfl ?_
          exact (vle_refl _)
      · refine sxk 16 tabOK rfl ?_
        refine aops_nil ?_
        refine at_ret ?_
        obtain rfl := Option.some.inj hF
        refine ret_le rfl ?_
        exact (vle_refl _)

theorem s_l10Fits_ok (m : PImage) (x_1 : Int) (x_2 : PInstr) (q : Bool) (hF : s_l10Fits m x_1 x_2 = some q) : FC Try.prog 114 [.agg (cImage.row 0 m), .int .i64 x_1, .agg (cInstr.row 0 x_2)] [] 3 (fun x _ => x = .bool q) := by
  refine FC.of_le ?_
  refine fc_body tabOK Try.func114 rfl Try.ntmps114 rfl rfl rfl ?_
  unfold s_l10Fits at hF
  refine at_seq ?_
  refine at_region ?_
  refine sxk 3 tabOK rfl ?_
  refine aops_nil ?_
  refine at_seq ?_
  refine at_region ?_
  refine sxk 3 tabOK rfl ?_
  obtain ⟨x4, hn_x4, hF⟩ := bnd_some hF
  refine sv rfl (oc_addr cCode hn_x4 tabOK rfl rfl rfl rfl) rfl ?_
  refine sxk 3 tabOK rfl ?_
  refine aops_nil ?_
  refine at_seq ?_
  refine at_seq ?_
  refine at_keep [1, 3, 5, 7] rfl ?_
  refine at_region ?_
  refine sxk 2 tabOK rfl ?_
  refine aops_nil ?_
  refine at_block ?_
  refine at_seq ?_
  refine at_region ?_
  refine sxk 2 tabOK rfl ?_
  refine aops_nil ?_
  refine ct_if hF rfl (fun hc hF => ?_) (fun hc hF => ?_)
  · refine at_seq ?_
    refine at_keep [5] rfl ?_
    refine at_drawnM (id := 4) 4 (by kernel_rfl) (by kernel_rfl) ?_
    refine nx tabOK rfl ?_
    refine nx tabOK rfl ?_
    obtain ⟨x5, hx5, hF⟩ := bnd_some hF
    refine n_call (s_PrimitiveNames_ok  x5 hx5) rfl (rlL_nil) (cStr.rl_psl (l := 1) (l' := 1) _ x5 rfl) rfl ?_
    refine nv rfl (oc_len cStr tabOK rfl rfl rfl) rfl ?_
    refine dn_nil rfl ?_
    refine sxk 2 tabOK rfl ?_
    refine aops_nil ?_
    refine at_ret ?_
    refine bk_r ?_
    refine tk_r ?_
    obtain rfl := Option.some.inj hF
    refine ret_le rfl ?_
    exact (vle_refl _)
  · refine at_seq ?_
    refine at_seq ?_
    refine at_region ?_
    refine sxk 2 tabOK rfl ?_
    refine aops_nil ?_
    refine ct_if hF rfl (fun hc hF => ?_) (fun hc hF => ?_)
    · refine at_skip ?_
      refine at_true rfl ?_
      refine at_seq ?_
      refine at_keep [5, 7] rfl ?_
      refine at_region ?_
      refine sxk 6 tabOK rfl ?_
      refine aops_nil ?_
      refine at_ret ?_
      refine bk_r ?_
      refine tk_r ?_
      obtain rfl := Option.some.inj hF
      refine ret_le rfl ?_
      exact (vle_refl _)
    · refine at_seq ?_
      refine at_region ?_
      refine sxk 2 tabOK rfl ?_
      refine aops_nil ?_
      refine ct_if hF rfl (fun hc hF => ?_) (fun hc hF => ?_)
      · refine at_skip ?_
        refine at_true rfl ?_
        refine at_seq ?_
        refine at_keep [5, 7] rfl ?_
        refine at_region ?_
        refine sxk 6 tabOK rfl ?_
        refine aops_nil ?_
        refine at_ret ?_
        refine bk_r ?_
        refine tk_r ?_
        obtain rfl := Option.some.inj hF
        refine ret_le rfl ?_
        exact (vle_refl _)
      · refine at_region ?_
        refine sxk 2 tabOK rfl ?_
        refine aops_nil ?_
        refine ct_if hF rfl (fun hc hF => ?_) (fun hc hF => ?_)
        · refine at_seq ?_
          refine at_keep [5, 7] rfl ?_
          refine at_region ?_
          refine sxk 6 tabOK rfl ?_
          refine aops_nil ?_
          refine at_ret ?_
          refine bk_r ?_
          refine tk_r ?_
          obtain rfl := Option.some.inj hF
          refine ret_le rfl ?_
          exact (vle_refl _)
        · refine at_seq ?_
          refine at_keep [1, 3, 5, 7, 14] rfl ?_
          refine at_region ?_
          refine sxk 2 tabOK rfl ?_
          refine aops_nil ?_
          refine ct_if hF rfl (fun hc hF => ?_) (fun hc hF => ?_)
          · refine at_seq ?_
            refine at_region ?_
            refine sxk 6 tabOK rfl ?_
            obtain ⟨hb, hF⟩ := chk_some hF
            refine s_sub tabOK rfl rfl rfl hb rfl ?_
            obtain ⟨x5, hx5, hF⟩ := bnd_some hF
            refine call_eq (s_l1In_ok x_2.a x4.params (x4.slots - 1) x5 hx5) rfl ((rlL_cons (rfl) (rlL_cons (rfl) (rlL_cons (rfl) rlL_nil)))) rfl rfl ?_
            refine sxk 1 tabOK rfl ?_
            refine aops_nil ?_
            refine at_ret ?_
            refine bk_r ?_
            refine tk_r ?_
            obtain rfl := Option.some.inj hF
            refine ret_le rfl ?_
            exact (vle_refl _)
          · refine at_seq ?_
            refine at_region ?_
            refine sxk 2 tabOK rfl ?_
            refine aops_nil ?_
            refine ct_if hF rfl (fun hc hF => ?_) (fun hc hF => ?_)
            · refine at_seq ?_
              refine at_keep [5, 7] rfl ?_
              refine at_region ?_
              refine sxk 6 tabOK rfl ?_
              refine aops_nil ?_
              refine at_ret ?_
              refine bk_r ?_
              refine tk_r ?_
              obtain rfl := Option.some.inj hF
              refine ret_le rfl ?_
              exact (vle_refl _)
            · refine at_seq ?_
              refine at_seq ?_
              refine at_region ?_
              refine sxk 2 tabOK rfl ?_
              refine aops_nil ?_
              refine ct_if hF rfl (fun hc hF => ?_) (fun hc hF => ?_)
              · refine at_skip ?_
                refine at_true rfl ?_
                refine at_seq ?_
                refine at_keep [5, 7] rfl ?_
                refine at_region ?_
                refine sxk 6 tabOK rfl ?_
                refine aops_nil ?_
                refine at_ret ?_
                refine bk_r ?_
                refine tk_r ?_
                obtain rfl := Option.some.inj hF
                refine ret_le rfl ?_
                exact (vle_refl _)
              · refine at_seq ?_
                refine at_region ?_
                refine sxk 2 tabOK rfl ?_
                refine aops_nil ?_
                refine ct_if hF rfl (fun hc hF => ?_) (fun hc hF => ?_)
                · refine at_skip ?_
                  refine at_true rfl ?_
                  refine at_seq ?_
                  refine at_keep [5, 7] rfl ?_
                  refine at_region ?_
                  refine sxk 6 tabOK rfl ?_
                  refine aops_nil ?_
                  refine at_ret ?_
                  refine bk_r ?_
                  refine tk_r ?_
                  obtain rfl := Option.some.inj hF
                  refine ret_le rfl ?_
                  exact (vle_refl _)
                · refine at_keep [1, 3, 5, 7, 14] rfl ?_
                  refine at_region ?_
                  refine sxk 2 tabOK rfl ?_
                  refine aops_nil ?_
                  refine ct_if hF rfl (fun hc hF => ?_) (fun hc hF => ?_)
                  · refine at_seq ?_
                    refine at_region ?_
                    refine sxk 6 tabOK rfl ?_
                    refine aops_nil ?_
                    refine at_ret ?_
                    refine bk_r ?_
                    refine tk_r ?_
                    obtain rfl := Option.some.inj hF
                    refine ret_le rfl ?_
                    exact (vle_refl _)
                  · refine at_seq ?_
                    refine at_region ?_
                    refine sxk 2 tabOK rfl ?_
                    refine aops_nil ?_
                    refine ct_if hF rfl (fun hc hF => ?_) (fun hc hF => ?_)
                    · refine at_seq ?_
                      refine at_region ?_
                      refine sxk 5 tabOK rfl ?_
                      refine ops_if (g := 63) hF rfl (fun hc hF => ?_) (fun hc hF => ?_)
                      · refine sxk 4 tabOK rfl ?_
                        obtain ⟨x5, hn_x5, hF⟩ := bnd_some hF
                        refine sv rfl (oc_addr cCode hn_x5 tabOK rfl rfl rfl rfl) rfl ?_
                        refine sxk 5 tabOK rfl ?_
                        refine aops_nil ?_
                        refine at_ret ?_
                        refine bk_r ?_
                        refine tk_r ?_
                        obtain rfl := Option.some.inj hF
                        refine ret_le rfl ?_
                        exact (vle_refl _)
                      · refine sxk 10 tabOK rfl ?_
                        refine aops_nil ?_
                        refine at_ret ?_
                        refine bk_r ?_
                        refine tk_r ?_
                        obtain rfl := Option.some.inj hF
                        refine ret_le rfl ?_
                        exact (vle_refl _)
                    · refine at_seq ?_
                      refine at_seq ?_
                      refine at_region ?_
                      refine sxk 2 tabOK rfl ?_
                      refine aops_nil ?_
                      refine cl_midn (σ := Bool) (fun x5 => ⟨[(1, .int .i64 x_1), (3, .ptr 3 1 0 0), (5, .ptr 4 1 0 0), (14, .int .i64 x_2.op), (73, .bool x5)], [(3, ⟨2, [cImage.row 0 m]⟩), (4, ⟨6, [cInstr.row 0 x_2]⟩)], 5, 112, []⟩) (fun x5 => s_l10Fits_J1 m x_1 x_2 x5 = some q) ?_ ?_
                      · refine ct_if hF rfl (fun hc hF => ?_) (fun hc hF => ?_)
                        · refine at_skip ?_
                          exact arr_cut ⟨true, hF, (le_down (down_all (ee_cons rfl rfl rfl (ee_cons rfl rfl (Nat.le_of_ble_eq_true rfl) (ee_cons rfl rfl (Nat.le_of_ble_eq_true rfl) (ee_cons rfl rfl rfl (ee_cons rfl rfl rfl ee_nil))))) (he_cons rfl rfl rfl (row_one (cImage.row_ok _ rfl)) (he_cons rfl rfl rfl (row_one (cInstr.row_ok _ rfl)) he_nil)) rfl rfl rfl rfl))⟩
                        · refine at_keep [1, 3, 5, 14] rfl ?_
                          refine at_region ?_
                          refine sxk 2 tabOK rfl ?_
                          refine aops_nil ?_
                          exact arr_cut ⟨(decide (x_2.op = 20)), hF, (le_down (down_all (ee_cons rfl rfl rfl (ee_cons rfl rfl (Nat.le_of_ble_eq_true rfl) (ee_cons rfl rfl (Nat.le_of_ble_eq_true rfl) (ee_cons rfl rfl rfl (ee_cons rfl rfl rfl ee_nil))))) (he_cons rfl rfl rfl (row_one (cImage.row_ok _ rfl)) (he_cons rfl rfl rfl (row_one (cInstr.row_ok _ rfl)) he_nil)) rfl rfl rfl rfl))⟩
                      · rintro x5 hF
                        refine at_eq (s' := ⟨[(1, .int .i64 x_1), (3, .ptr 3 1 0 0), (5, .ptr 4 1 0 0), (14, .int .i64 x_2.op), (73, .bool x5)], [(3, ⟨2, [cImage.row 0 m]⟩), (4, ⟨6, [cInstr.row 0 x_2]⟩)], 5, 112, []⟩) rfl ?_
                        replace hF : s_l10Fits_J1 m x_1 x_2 x5 = some q := hF
                        unfold s_l10Fits_J1 at hF
                        refine ct_b hF rfl (fun hc hF => ?_) (fun hc hF => ?_)
                        · refine at_seq ?_
                          refine at_region ?_
                          refine sxk 5 tabOK rfl ?_
                          refine ops_if (g := 80) hF rfl (fun hc hF => ?_) (fun hc hF => ?_)
                          · refine sxk 4 tabOK rfl ?_
                            obtain ⟨x6, hn_x6, hF⟩ := bnd_some hF
                            refine sv rfl (oc_addr cCode hn_x6 tabOK rfl rfl rfl rfl) rfl ?_
                            refine sxk 5 tabOK rfl ?_
                            refine aops_nil ?_
                            refine at_ret ?_
                            refine bk_r ?_
                            refine tk_r ?_
                            obtain rfl := Option.some.inj hF
                            refine ret_le rfl ?_
                            exact (vle_refl _)
                          · refine sxk 10 tabOK rfl ?_
                            refine aops_nil ?_
                            refine at_ret ?_
                            refine bk_r ?_
                            refine tk_r ?_
                            obtain rfl := Option.some.inj hF
                            refine ret_le rfl ?_
                            exact (vle_refl _)
                        · refine at_seq ?_
                          refine at_region ?_
                          refine sxk 2 tabOK rfl ?_
                          refine aops_nil ?_
                          refine ct_if hF rfl (fun hc hF => ?_) (fun hc hF => ?_)
                          · refine at_seq ?_
                            refine at_region ?_
                            refine sxk 5 tabOK rfl ?_
                            refine ops_if (g := 96) hF rfl (fun hc hF => ?_) (fun hc hF => ?_)
                            · refine sxk 4 tabOK rfl ?_
                              obtain ⟨x6, hn_x6, hF⟩ := bnd_some hF
                              refine sv rfl (oc_addr cCode hn_x6 tabOK rfl rfl rfl rfl) rfl ?_
                              refine sxk 5 tabOK rfl ?_
                              refine aops_nil ?_
                              refine at_ret ?_
                              refine bk_r ?_
                              refine tk_r ?_
                              obtain rfl := Option.some.inj hF
                              refine ret_le rfl ?_
                              exact (vle_refl _)
                            · refine sxk 10 tabOK rfl ?_
                              refine aops_nil ?_
                              refine at_ret ?_
                              refine bk_r ?_
                              refine tk_r ?_
                              obtain rfl := Option.some.inj hF
                              refine ret_le rfl ?_
                              exact (vle_refl _)
                          · refine at_seq ?_
                            refine at_seq ?_
                            refine at_region ?_
                            refine sxk 2 tabOK rfl ?_
                            refine aops_nil ?_
                            refine ct_if hF rfl (fun hc hF => ?_) (fun hc hF => ?_)
                            · refine at_skip ?_
                              refine at_true rfl ?_
                              refine at_seq ?_
                              refine at_keep [5] rfl ?_
                              refine at_region ?_
                              refine sxk 4 tabOK rfl ?_
                              refine aops_nil ?_
                              refine at_ret ?_
                              refine bk_r ?_
                              refine tk_r ?_
                              obtain rfl := Option.some.inj hF
                              refine ret_le rfl ?_
                              exact (vle_refl _)
                            · refine at_keep [5, 14] rfl ?_
                              refine at_region ?_
                              refine sxk 2 tabOK rfl ?_
                              refine aops_nil ?_
                              refine ct_if hF rfl (fun hc hF => ?_) (fun hc hF => ?_)
                              · refine at_seq ?_
                                refine at_region ?_
                                refine sxk 4 tabOK rfl ?_
                                refine aops_nil ?_
                                refine at_ret ?_
                                refine bk_r ?_
                                refine tk_r ?_
                                obtain rfl := Option.some.inj hF
                                refine ret_le rfl ?_
                                exact (vle_refl _)
                              · refine at_skip ?_
                                refine bk_n ?_
                                refine at_seq ?_
                                refine at_region ?_
                                refine sxk 1 tabOK rfl ?_
                                refine aops_nil ?_
                                refine at_ret ?_
                                obtain rfl := Option.some.inj hF
                                refine ret_le rfl ?_
                                exact (vle_refl _)

theorem s_l10Effect_ok (m : PImage) (x_1 : PInstr) (q : Int × Int) (hF : s_l10Effect m x_1 = some q) : FC Try.prog 115 [.agg (cImage.row 0 m), .agg (cInstr.row 0 x_1)] [] 3 (fun x _ => x = .tup [.int .i64 q.1, .int .i64 q.2]) := by
  refine FC.of_le ?_
  refine fc_body tabOK Try.func115 rfl Try.ntmps115 rfl rfl rfl ?_
  unfold s_l10Effect at hF
  refine at_seq ?_
  refine at_region ?_
  refine sxk 4 tabOK rfl ?_
  refine aops_nil ?_
  refine at_seq ?_
  refine at_seq ?_
  refine at_region ?_
  refine sxk 2 tabOK rfl ?_
  refine aops_nil ?_
  refine at_block ?_
  refine at_seq ?_
  refine at_seq ?_
  refine at_region ?_
  refine sxk 2 tabOK rfl ?_
  refine aops_nil ?_
  refine ct_if hF rfl (fun hc hF => ?_) (fun hc hF => ?_)
  · refine at_skip ?_
    refine at_true rfl ?_
    refine at_seq ?_
    refine at_keep [] rfl ?_
    refine at_region ?_
    refine sxk 2 tabOK rfl ?_
    refine aops_nil ?_
    refine at_ret ?_
    refine bk_r ?_
    refine tk_r ?_
    obtain rfl := Option.some.inj hF
    refine ret_le rfl ?_
    exact (vle_tup (.cons (vle_refl _) (.cons (vle_refl _) .nil)))
  · refine at_seq ?_
    refine at_keep [2, 3, 7] rfl ?_
    refine at_region ?_
    refine sxk 2 tabOK rfl ?_
    refine aops_nil ?_
    refine ct_if hF rfl (fun hc hF => ?_) (fun hc hF => ?_)
    · refine at_skip ?_
      refine at_true rfl ?_
      refine at_seq ?_
      refine at_region ?_
      refine sxk 2 tabOK rfl ?_
      refine aops_nil ?_
      refine at_ret ?_
      refine bk_r ?_
      refine tk_r ?_
      obtain rfl := Option.some.inj hF
      refine ret_le rfl ?_
      exact (vle_tup (.cons (vle_refl _) (.cons (vle_refl _) .nil)))
    · refine at_seq ?_
      refine at_region ?_
      refine sxk 2 tabOK rfl ?_
      refine aops_nil ?_
      refine ct_if hF rfl (fun hc hF => ?_) (fun hc hF => ?_)
      · refine at_skip ?_
        refine at_true rfl ?_
        refine at_seq ?_
        refine at_region ?_
        refine sxk 2 tabOK rfl ?_
        refine aops_nil ?_
        refine at_ret ?_
        refine bk_r ?_
        refine tk_r ?_
        obtain rfl := Option.some.inj hF
        refine ret_le rfl ?_
        exact (vle_tup (.cons (vle_refl _) (.cons (vle_refl _) .nil)))
      · refine at_seq ?_
        refine at_region ?_
        refine sxk 2 tabOK rfl ?_
        refine aops_nil ?_
        refine ct_if hF rfl (fun hc hF => ?_) (fun hc hF => ?_)
        · refine at_skip ?_
          refine at_true rfl ?_
          refine at_seq ?_
          refine at_keep [] rfl ?_
          refine at_region ?_
          refine sxk 2 tabOK rfl ?_
          refine aops_nil ?_
          refine at_ret ?_
          refine bk_r ?_
          refine tk_r ?_
          obtain rfl := Option.some.inj hF
          refine ret_le rfl ?_
          exact (vle_tup (.cons (vle_refl _) (.cons (vle_refl _) .nil)))
        · refine at_seq ?_
          refine at_region ?_
          refine sxk 2 tabOK rfl ?_
          refine aops_nil ?_
          refine ct_if hF rfl (fun hc hF => ?_) (fun hc hF => ?_)
          · refine at_skip ?_
            refine at_true rfl ?_
            refine at_seq ?_
            refine at_keep [] rfl ?_
            refine at_region ?_
            refine sxk 2 tabOK rfl ?_
            refine aops_nil ?_
            refine at_ret ?_
            refine bk_r ?_
            refine tk_r ?_
            obtain rfl := Option.some.inj hF
            refine ret_le rfl ?_
            exact (vle_tup (.cons (vle_refl _) (.cons (vle_refl _) .nil)))
          · refine at_region ?_
            refine sxk 2 tabOK rfl ?_
            refine aops_nil ?_
            refine ct_if hF rfl (fun hc hF => ?_) (fun hc hF => ?_)
            · refine at_seq ?_
              refine at_keep [] rfl ?_
              refine at_region ?_
              refine sxk 2 tabOK rfl ?_
              refine aops_nil ?_
              refine at_ret ?_
              refine bk_r ?_
              refine tk_r ?_
              obtain rfl := Option.some.inj hF
              refine ret_le rfl ?_
              exact (vle_tup (.cons (vle_refl _) (.cons (vle_refl _) .nil)))
            · refine at_seq ?_
              refine at_seq ?_
              refine at_region ?_
              refine sxk 2 tabOK rfl ?_
              refine aops_nil ?_
              refine ct_if hF rfl (fun hc hF => ?_) (fun hc hF => ?_)
              · refine at_skip ?_
                refine at_true rfl ?_
                refine at_seq ?_
                refine at_keep [] rfl ?_
                refine at_region ?_
                refine sxk 2 tabOK rfl ?_
                refine aops_nil ?_
                refine at_ret ?_
                refine bk_r ?_
                refine tk_r ?_
                obtain rfl := Option.some.inj hF
                refine ret_le rfl ?_
                exact (vle_tup (.cons (vle_refl _) (.cons (vle_refl _) .nil)))
              · refine at_keep [2, 3, 7] rfl ?_
                refine at_region ?_
                refine sxk 2 tabOK rfl ?_
                refine aops_nil ?_
                refine ct_if hF rfl (fun hc hF => ?_) (fun hc hF => ?_)
                · refine at_seq ?_
                  refine at_region ?_
                  refine sxk 2 tabOK rfl ?_
                  refine aops_nil ?_
                  refine at_ret ?_
                  refine bk_r ?_
                  refine tk_r ?_
                  obtain rfl := Option.some.inj hF
                  refine ret_le rfl ?_
                  exact (vle_tup (.cons (vle_refl _) (.cons (vle_refl _) .nil)))
                · refine at_seq ?_
                  refine at_seq ?_
                  refine at_region ?_
                  refine sxk 2 tabOK rfl ?_
                  refine aops_nil ?_
                  refine ct_if hF rfl (fun hc hF => ?_) (fun hc hF => ?_)
                  · refine at_skip ?_
                    refine at_true rfl ?_
                    refine at_seq ?_
                    refine at_region ?_
                    refine sxk 4 tabOK rfl ?_
                    obtain ⟨x3, hn_x3, hF⟩ := bnd_some hF
                    refine sv rfl (oc_addr cCode hn_x3 tabOK rfl rfl rfl rfl) rfl ?_
                    refine sxk 4 tabOK rfl ?_
                    refine aops_nil ?_
                    refine at_ret ?_
                    refine bk_r ?_
                    refine tk_r ?_
                    obtain rfl := Option.some.inj hF
                    refine ret_le rfl ?_
                    exact (vle_tup (.cons (vle_refl _) (.cons (vle_refl _) .nil)))
                  · refine at_seq ?_
                    refine at_region ?_
                    refine sxk 2 tabOK rfl ?_
                    refine aops_nil ?_
                    refine ct_if hF rfl (fun hc hF => ?_) (fun hc hF => ?_)
                    · refine at_skip ?_
                      refine at_true rfl ?_
                      refine at_seq ?_
                      refine at_region ?_
                      refine sxk 4 tabOK rfl ?_
                      obtain ⟨x3, hn_x3, hF⟩ := bnd_some hF
                      refine sv rfl (oc_addr cCode hn_x3 tabOK rfl rfl rfl rfl) rfl ?_
                      refine sxk 4 tabOK rfl ?_
                      refine aops_nil ?_
                      refine at_ret ?_
                      refine bk_r ?_
                      refine tk_r ?_
                      obtain rfl := Option.some.inj hF
                      refine ret_le rfl ?_
                      exact (vle_tup (.cons (vle_refl _) (.cons (vle_refl _) .nil)))
                    · refine at_seq ?_
                      refine at_region ?_
                      refine sxk 2 tabOK rfl ?_
                      refine aops_nil ?_
                      refine ct_if hF rfl (fun hc hF => ?_) (fun hc hF => ?_)
                      · refine at_skip ?_
                        refine at_true rfl ?_
                        refine at_seq ?_
                        refine at_keep [2, 3] rfl ?_
                        refine at_region ?_
                        refine sxk 4 tabOK rfl ?_
                        obtain ⟨x3, hn_x3, hF⟩ := bnd_some hF
                        refine sv rfl (oc_addr cCode hn_x3 tabOK rfl rfl rfl rfl) rfl ?_
                        refine sxk 4 tabOK rfl ?_
                        refine aops_nil ?_
                        refine at_ret ?_
                        refine bk_r ?_
                        refine tk_r ?_
                        obtain rfl := Option.some.inj hF
                        refine ret_le rfl ?_
                        exact (vle_tup (.cons (vle_refl _) (.cons (vle_refl _) .nil)))
                      · refine at_region ?_
                        refine sxk 2 tabOK rfl ?_
                        refine aops_nil ?_
                        refine ct_if hF rfl (fun hc hF => ?_) (fun hc hF => ?_)
                        · refine at_seq ?_
                          refine at_keep [2, 3] rfl ?_
                          refine at_region ?_
                          refine sxk 4 tabOK rfl ?_
                          obtain ⟨x3, hn_x3, hF⟩ := bnd_some hF
                          refine sv rfl (oc_addr cCode hn_x3 tabOK rfl rfl rfl rfl) rfl ?_
                          refine sxk 4 tabOK rfl ?_
                          refine aops_nil ?_
                          refine at_ret ?_
                          refine bk_r ?_
                          refine tk_r ?_
                          obtain rfl := Option.some.inj hF
                          refine ret_le rfl ?_
                          exact (vle_tup (.cons (vle_refl _) (.cons (vle_refl _) .nil)))
                        · refine at_seq ?_
                          refine at_keep [3, 7] rfl ?_
                          refine at_region ?_
                          refine sxk 2 tabOK rfl ?_
                          refine aops_nil ?_
                          refine ct_if hF rfl (fun hc hF => ?_) (fun hc hF => ?_)
                          · refine at_seq ?_
                            refine at_region ?_
                            refine sxk 2 tabOK rfl ?_
                            obtain ⟨hb, hF⟩ := chk_some hF
                            refine s_add tabOK rfl rfl rfl hb rfl ?_
                            refine sxk 2 tabOK rfl ?_
                            refine aops_nil ?_
                            refine at_ret ?_
                            refine bk_r ?_
                            refine tk_r ?_
                            obtain rfl := Option.some.inj hF
                            refine ret_le rfl ?_
                            exact (vle_tup (.cons (vle_refl _) (.cons (vle_refl _) .nil)))
                          · refine at_seq ?_
                            refine at_region ?_
                            refine sxk 2 tabOK rfl ?_
                            refine aops_nil ?_
                            refine ct_if hF rfl (fun hc hF => ?_) (fun hc hF => ?_)
                            · refine at_seq ?_
                              refine at_region ?_
                              refine sxk 2 tabOK rfl ?_
                              obtain ⟨hb, hF⟩ := chk_some hF
                              refine s_add tabOK rfl rfl rfl hb rfl ?_
                              refine sxk 2 tabOK rfl ?_
                              refine aops_nil ?_
                              refine at_ret ?_
                              refine bk_r ?_
                              refine tk_r ?_
                              obtain rfl := Option.some.inj hF
                              refine ret_le rfl ?_
                              exact (vle_tup (.cons (vle_refl _) (.cons (vle_refl _) .nil)))
                            · refine at_seq ?_
                              refine at_seq ?_
                              refine at_region ?_
                              refine sxk 2 tabOK rfl ?_
                              refine aops_nil ?_
                              refine ct_if hF rfl (fun hc hF => ?_) (fun hc hF => ?_)
                              · refine at_skip ?_
                                refine at_true rfl ?_
                                refine at_seq ?_
                                refine at_keep [] rfl ?_
                                refine at_region ?_
                                refine sxk 2 tabOK rfl ?_
                                refine aops_nil ?_
                                refine at_ret ?_
                                refine bk_r ?_
                                refine tk_r ?_
                                obtain rfl := Option.some.inj hF
                                refine ret_le rfl ?_
                                exact (vle_tup (.cons (vle_refl _) (.cons (vle_refl _) .nil)))
                              · refine at_seq ?_
                                refine at_keep [7] rfl ?_
                                refine at_region ?_
                                refine sxk 2 tabOK rfl ?_
                                refine aops_nil ?_
                                refine ct_if hF rfl (fun hc hF => ?_) (fun hc hF => ?_)
                                · refine at_skip ?_
                                  refine at_true rfl ?_
                                  refine at_seq ?_
                                  refine at_region ?_
                                  refine sxk 2 tabOK rfl ?_
                                  refine aops_nil ?_
                                  refine at_ret ?_
                                  refine bk_r ?_
                                  refine tk_r ?_
                                  obtain rfl := Option.some.inj hF
                                  refine ret_le rfl ?_
                                  exact (vle_tup (.cons (vle_refl _) (.cons (vle_refl _) .nil)))
                                · refine at_region ?_
                                  refine sxk 2 tabOK rfl ?_
                                  refine aops_nil ?_
                                  refine ct_if hF rfl (fun hc hF => ?_) (fun hc hF => ?_)
                                  · refine at_seq ?_
                                    refine at_region ?_
                                    refine sxk 2 tabOK rfl ?_
                                    refine aops_nil ?_
                                    refine at_ret ?_
                                    refine bk_r ?_
                                    refine tk_r ?_
                                    obtain rfl := Option.some.inj hF
                                    refine ret_le rfl ?_
                                    exact (vle_tup (.cons (vle_refl _) (.cons (vle_refl _) .nil)))
                                  · refine at_skip ?_
                                    refine bk_n ?_
                                    refine at_seq ?_
                                    refine at_region ?_
                                    refine sxk 2 tabOK rfl ?_
                                    refine aops_nil ?_
                                    refine at_ret ?_
                                    obtain rfl := Option.some.inj hF
                                    refine ret_le rfl ?_
                                    exact (vle_tup (.cons (vle_refl _) (.cons (vle_refl _) .nil)))

theorem s_l10Inside_ok (op : Int) (q : Bool) (hF : s_l10Inside op = some q) : FC Try.prog 116 [.int .i64 op] [] 3 (fun x _ => x = .bool q) := by
  refine FC.of_le ?_
  refine fc_body tabOK Try.func116 rfl Try.ntmps116 rfl rfl rfl ?_
  unfold s_l10Inside at hF
  refine at_seq ?_
  refine at_region ?_
  refine sxk 1 tabOK rfl ?_
  refine aops_nil ?_
  refine at_seq ?_
  refine at_region ?_
  refine sxk 3 tabOK rfl ?_
  refine ops_if (g := 5) hF rfl (fun hc hF => ?_) (fun hc hF => ?_)
  · refine sxk 12 tabOK rfl ?_
    refine aops_nil ?_
    refine at_ret ?_
    obtain rfl := Option.some.inj hF
    refine ret_le rfl ?_
    exact (vle_refl _)
  · refine sxk 4 tabOK rfl ?_
    refine ops_if (g := 9) hF rfl (fun hc hF => ?_) (fun hc hF => ?_)
    · refine sxk 8 tabOK rfl ?_
      refine aops_nil ?_
      refine at_ret ?_
      obtain rfl := Option.some.inj hF
      refine ret_le rfl ?_
      exact (vle_refl _)
    · refine sxk 4 tabOK rfl ?_
      refine ops_if (g := 13) hF rfl (fun hc hF => ?_) (fun hc hF => ?_)
      · refine sxk 4 tabOK rfl ?_
        refine aops_nil ?_
        refine at_ret ?_
        obtain rfl := Option.some.inj hF
        refine ret_le rfl ?_
        exact (vle_refl _)
      · refine sxk 4 tabOK rfl ?_
        refine aops_nil ?_
        refine at_ret ?_
        obtain rfl := Option.some.inj hF
        refine ret_le rfl ?_
        exact (vle_refl _)

theorem s_l10Code_ok (m : PImage) (x_1 : Int) (q : Bool) (hF : s_l10Code m x_1 = some q) : FC Try.prog 81 [.agg (cImage.row 0 m), .int .i64 x_1] [] 3 (fun x _ => x = .bool q) := by
  refine FC.of_le ?_
  refine fc_body tabOK Try.func81 rfl Try.ntmps81 rfl rfl rfl ?_
  unfold s_l10Code at hF
  refine at_seq ?_
  refine at_region ?_
  refine sxk 2 tabOK rfl ?_
  refine aops_nil ?_
  refine at_seq ?_
  refine at_region ?_
  refine sxk 3 tabOK rfl ?_
  obtain ⟨x3, hn_x3, hF⟩ := bnd_some hF
  refine sv rfl (oc_addr cCode hn_x3 tabOK rfl rfl rfl rfl) rfl ?_
  refine sxk 3 tabOK rfl ?_
  refine aops_nil ?_
  refine at_seq ?_
  refine at_seq ?_
  refine at_keep [1, 2, 5] rfl ?_
  refine at_region ?_
  refine sxk 2 tabOK rfl ?_
  obtain ⟨x4, hx4, hF⟩ := bnd_some hF
  refine call_eq (s_l1In_ok x3.params 0 8 x4 hx4) rfl ((rlL_cons (rfl) (rlL_cons (rfl) (rlL_cons (rfl) rlL_nil)))) rfl rfl ?_
  refine sxk 2 tabOK rfl ?_
  refine ops_ifnb (g := 17) hF rfl (fun hc hF => ?_) (fun hc hF => ?_)
  · refine sxk 20 tabOK rfl ?_
    refine aops_nil ?_
    refine at_true rfl ?_
    refine at_seq ?_
    refine at_keep [] rfl ?_
    refine at_region ?_
    refine sxk 1 tabOK rfl ?_
    refine aops_nil ?_
    refine at_ret ?_
    refine tk_r ?_
    obtain rfl := Option.some.inj hF
    refine ret_le rfl ?_
    exact (vle_refl _)
  · refine sxk 4 tabOK rfl ?_
    obtain ⟨x5, hx5, hF⟩ := bnd_some hF
    refine call_eq (s_l1In_ok x3.slots x3.params 500 x5 hx5) rfl ((rlL_cons (rfl) (rlL_cons (rfl) (rlL_cons (rfl) rlL_nil)))) rfl rfl ?_
    refine sxk 3 tabOK rfl ?_
    refine ops_ifnb (g := 25) hF rfl (fun hc hF => ?_) (fun hc hF => ?_)
    · refine sxk 12 tabOK rfl ?_
      refine aops_nil ?_
      refine at_true rfl ?_
      refine at_seq ?_
      refine at_keep [] rfl ?_
      refine at_region ?_
      refine sxk 1 tabOK rfl ?_
      refine aops_nil ?_
      refine at_ret ?_
      refine tk_r ?_
      obtain rfl := Option.some.inj hF
      refine ret_le rfl ?_
      exact (vle_refl _)
    · refine sxk 2 tabOK rfl ?_
      obtain ⟨x6, hx6, hF⟩ := bnd_some hF
      refine call_eq (s_l1In_ok x3.captures 0 500 x6 hx6) rfl ((rlL_cons (rfl) (rlL_cons (rfl) (rlL_cons (rfl) rlL_nil)))) rfl rfl ?_
      refine sxk 3 tabOK rfl ?_
      refine ops_ifnb (g := 31) hF rfl (fun hc hF => ?_) (fun hc hF => ?_)
      · refine sxk 6 tabOK rfl ?_
        refine aops_nil ?_
        refine at_true rfl ?_
        refine at_seq ?_
        refine at_keep [] rfl ?_
        refine at_region ?_
        refine sxk 1 tabOK rfl ?_
        refine aops_nil ?_
        refine at_ret ?_
        refine tk_r ?_
        obtain rfl := Option.some.inj hF
        refine ret_le rfl ?_
        exact (vle_refl _)
      · refine sxk 2 tabOK rfl ?_
        refine sv rfl (oc_len cInstr tabOK rfl rfl rfl) rfl ?_
        obtain ⟨x7, hx7, hF⟩ := bnd_some hF
        refine call_eq (s_l1In_ok (x3.instrs.length : Int) 1 4000 x7 hx7) rfl ((rlL_cons (rfl) (rlL_cons (rfl) (rlL_cons (rfl) rlL_nil)))) rfl rfl ?_
        refine sxk 2 tabOK rfl ?_
        refine aops_nil ?_
        refine ct_bn hF rfl (fun hc hF => ?_) (fun hc hF => ?_)
        · refine at_seq ?_
          refine at_keep [] rfl ?_
          refine at_region ?_
          refine sxk 1 tabOK rfl ?_
          refine aops_nil ?_
          refine at_ret ?_
          refine tk_r ?_
          obtain rfl := Option.some.inj hF
          refine ret_le rfl ?_
          exact (vle_refl _)
        · refine at_skip ?_
          refine at_seq ?_
          refine at_seq ?_
          refine at_keep [1, 2, 5] rfl ?_
          refine at_region ?_
          refine sxk 2 tabOK rfl ?_
          refine sv rfl (oc_len cInstr tabOK rfl rfl rfl) rfl ?_
          refine sxk 1 tabOK rfl ?_
          refine aops_nil ?_
          refine at_block ?_
          refine cl_loop (σ := Int) (fun x8 => ⟨[(1, .int .i64 x_1), (2, .ptr 3 1 0 0), (39, .psl 0 6 (x3.instrs.map (cInstr.enc 0))), (40, .int .i64 (x3.instrs.length : Int)), (41, .int .i64 x8)], [(3, ⟨2, [cImage.row 0 m]⟩)], 5, 56, []⟩) (s_l10Code_L1 m x_1 x3) LF 0 hF (le_down (down_all (ee_cons rfl rfl rfl (ee_cons rfl rfl (Nat.le_of_ble_eq_true rfl) (ee_cons rfl rfl (cInstr.ok_psl _ rfl) (ee_cons rfl rfl rfl (ee_cons rfl rfl rfl ee_nil))))) (he_cons rfl rfl rfl (row_one (cImage.row_ok _ rfl)) he_nil) rfl rfl rfl rfl)) ?_
          rintro lk_ x8 hF
          refine at_eq (s' := ⟨[(1, .int .i64 x_1), (2, .ptr 3 1 0 0), (39, .psl 0 6 (x3.instrs.map (cInstr.enc 0))), (40, .int .i64 (x3.instrs.length : Int)), (41, .int .i64 x8)], [(3, ⟨2, [cImage.row 0 m]⟩)], 5, 56, []⟩) rfl ?_
          replace hF : s_l10Code_L1b m x_1 x3 (itr (s_l10Code_L1 m x_1 x3) lk_) x8 = some q := hF
          unfold s_l10Code_L1b at hF
          generalize itr (s_l10Code_L1 m x_1 x3) lk_ = go9 at hF ⊢
          refine at_seq ?_
          refine at_region ?_
          refine sxk 1 tabOK rfl ?_
          refine aops_nil ?_
          refine at_seq ?_
          refine ct_if hF rfl (fun hc hF => ?_) (fun hc hF => ?_)
          · refine at_skip ?_
            refine at_seq ?_
            refine at_block ?_
            refine at_seq ?_
            refine at_region ?_
            obtain ⟨x10, hn_x10, hF⟩ := bnd_some hF
            refine sv rfl (oc_addr cInstr hn_x10 tabOK rfl rfl rfl rfl) rfl ?_
            refine sxk 3 tabOK rfl ?_
            refine aops_nil ?_
            refine at_seq ?_
            refine at_region ?_
            refine sxk 1 tabOK rfl ?_
            obtain ⟨x11, hx11, hF⟩ := bnd_some hF
            refine call_eq (s_l10Instr_ok x10 x11 hx11) rfl ((rlL_cons (cInstr.rl_agg (l := 0) (l' := 0) _ x10 rfl) rlL_nil)) rfl rfl ?_
            refine sxk 2 tabOK rfl ?_
            refine ops_ifnb (g := 48) hF rfl (fun hc hF => ?_) (fun hc hF => ?_)
            · refine sxk 6 tabOK rfl ?_
              refine aops_nil ?_
              refine at_true rfl ?_
              refine at_seq ?_
              refine at_keep [] rfl ?_
              refine at_region ?_
              refine sxk 1 tabOK rfl ?_
              refine aops_nil ?_
              refine at_ret ?_
              refine bk_r ?_
              refine tk_r ?_
              refine ll_r ?_
              refine bk_r ?_
              refine tk_r ?_
              obtain rfl := Option.some.inj hF
              refine ret_le rfl ?_
              exact (vle_refl _)
            · refine sxk 3 tabOK rfl ?_
              obtain ⟨x12, hx12, hF⟩ := bnd_some hF
              refine call_eq (s_l10Fits_ok m x_1 x10 x12 hx12) rfl ((rlL_cons (cImage.rl_agg (l := 0) (l' := 0) _ m rfl) (rlL_cons (rfl) (rlL_cons (cInstr.rl_agg (l := 0) (l' := 0) _ x10 rfl) rlL_nil)))) rfl rfl ?_
              refine sxk 2 tabOK rfl ?_
              refine aops_nil ?_
              refine ct_bn hF rfl (fun hc hF => ?_) (fun hc hF => ?_)
              · refine at_seq ?_
                refine at_keep [] rfl ?_
                refine at_region ?_
                refine sxk 1 tabOK rfl ?_
                refine aops_nil ?_
                refine at_ret ?_
                refine bk_r ?_
                refine tk_r ?_
                refine ll_r ?_
                refine bk_r ?_
                refine tk_r ?_
                obtain rfl := Option.some.inj hF
                refine ret_le rfl ?_
                exact (vle_refl _)
              · refine at_skip ?_
                refine bk_n ?_
                refine at_keep [1, 2, 39, 40, 41, 49, 50, 51, 52, 53] rfl ?_
                refine at_region ?_
                obtain ⟨hb, hF⟩ := chk_some hF
                refine s_add tabOK rfl rfl rfl hb rfl ?_
                refine sxk 1 tabOK rfl ?_
                refine aops_nil ?_
                exact arr_loop ⟨(x8 + 1), hF, (le_down (down_all (ee_cons rfl rfl rfl (ee_cons rfl rfl (Nat.le_of_ble_eq_true rfl) (ee_cons rfl rfl (cInstr.ok_psl _ rfl) (ee_cons rfl rfl rfl (ee_cons rfl rfl rfl ee_nil))))) (he_cons rfl rfl rfl (row_one (cImage.row_ok _ rfl)) he_nil) rfl rfl rfl rfl))⟩
          · refine at_exit ?_
            refine tk_x ?_
            refine ll_x ?_
            refine bk_hit ?_
            refine at_seq ?_
            refine at_region ?_
            refine sxk 1 tabOK rfl ?_
            refine aops_nil ?_
            refine at_ret ?_
            obtain rfl := Option.some.inj hF
            refine ret_le rfl ?_
            exact (vle_refl _)

theorem s_l10Depths_ok (m : PImage) (x_1 : Int) (q : List Int × Bool) (hF : s_l10Depths m x_1 = some q) : FC Try.prog 82 [.agg (cImage.row 0 m), .int .i64 x_1] [] 3 (fun x _ => x = .tup [.psl 1 1 (q.1.map (cInt.enc 1)), .bool q.2]) := by
  refine FC.of_le ?_
  refine fc_body tabOK Try.func82 rfl Try.ntmps82 rfl rfl rfl ?_
  unfold s_l10Depths at hF
  refine at_seq ?_
  refine at_region ?_
  refine sxk 3 tabOK rfl ?_
  refine aops_nil ?_
  refine at_seq ?_
  refine at_region ?_
  refine sxk 3 tabOK rfl ?_
  obtain ⟨x3, hn_x3, hF⟩ := bnd_some hF
  refine sv rfl (oc_addr cCode hn_x3 tabOK rfl rfl rfl rfl) rfl ?_
  refine sxk 3 tabOK rfl ?_
  refine aops_nil ?_
  refine at_seq ?_
  refine at_keep [2, 6] rfl ?_
  refine at_region ?_
  refine sxk 1 tabOK rfl ?_
  refine sv rfl (oc_len cInstr tabOK rfl rfl rfl) rfl ?_
  obtain ⟨hb, hF⟩ := chk_some hF
  refine sc_make cInt (l := 0) (v := (0 : Int)) hb tabOK rfl rfl rfl rfl (vleL_refl _) rfl rfl rfl ?_
  refine sxk 1 tabOK rfl ?_
  refine aops_nil ?_
  refine at_seq ?_
  refine at_seq ?_
  refine at_region ?_
  refine sxk 1 tabOK rfl ?_
  refine sv rfl (oc_hlen cInt tabOK rfl rfl rfl) rfl ?_
  refine sxk 1 tabOK rfl ?_
  refine aops_nil ?_
  refine at_block ?_
  refine cl_loop (σ := Int × List Int) (fun v => match v with | (x4, depths5) => ⟨[(2, .ptr 3 1 0 0), (6, .psl 0 6 (x3.instrs.map (cInstr.enc 0))), (7, .hsl 4 0 depths5.length), (27, .int .i64 ((List.replicate (x3.instrs.length : Int).toNat (0 : Int)).length : Int)), (28, .int .i64 x4)], [(3, ⟨2, [cImage.row 0 m]⟩), (4, ⟨1, depths5.map (cInt.enc 0)⟩)], 5, 151, []⟩) (s_l10Depths_L1 m x3) LF (0, (List.replicate (x3.instrs.length : Int).toNat (0 : Int))) hF (le_down (down_all (ee_cons rfl rfl (Nat.le_of_ble_eq_true rfl) (ee_cons rfl rfl (cInstr.ok_psl _ rfl) (ee_cons rfl rfl (Nat.le_of_ble_eq_true rfl) (ee_cons rfl rfl rfl (ee_cons rfl rfl rfl ee_nil))))) (he_cons rfl rfl rfl (row_one (cImage.row_ok _ rfl)) (he_cons rfl rfl rfl (cInt.rows_ok _ rfl) he_nil)) rfl rfl rfl rfl)) ?_
  rintro lk_ ⟨x4, depths5⟩ hF
  refine at_eq (s' := ⟨[(2, .ptr 3 1 0 0), (6, .psl 0 6 (x3.instrs.map (cInstr.enc 0))), (7, .hsl 4 0 depths5.length), (27, .int .i64 ((List.replicate (x3.instrs.length : Int).toNat (0 : Int)).length : Int)), (28, .int .i64 x4)], [(3, ⟨2, [cImage.row 0 m]⟩), (4, ⟨1, depths5.map (cInt.enc 0)⟩)], 5, 151, []⟩) rfl ?_
  replace hF : s_l10Depths_L1b m x3 (itr (s_l10Depths_L1 m x3) lk_) x4 depths5 = some q := hF
  unfold s_l10Depths_L1b at hF
  generalize itr (s_l10Depths_L1 m x3) lk_ = go6 at hF ⊢
  refine at_seq ?_
  refine at_region ?_
  refine sxk 1 tabOK rfl ?_
  refine aops_nil ?_
  refine at_seq ?_
  refine ct_if hF rfl (fun hc hF => ?_) (fun hc hF => ?_)
  · refine at_skip ?_
    refine at_seq ?_
    refine at_block ?_
    refine at_seq ?_
    refine at_region ?_
    refine sxk 2 tabOK rfl ?_
    refine aops_nil ?_
    refine at_region ?_
    refine sxk 2 tabOK rfl ?_
    obtain ⟨x7, hn_x7, hF⟩ := bnd_some hF
    refine sv rfl (oc_haddr cInt hn_x7 tabOK rfl rfl rfl rfl) rfl ?_
    refine sc_store cInt (v' := (-1)) hn_x7 tabOK rfl rfl rfl rfl rfl rfl rfl rfl ?_
    refine ops_le (le_slot (y := .hsl 4 0 (depths5.set x4.toNat (-1)).length) 7 rfl (vle_eq (congrArg (V.hsl 4 0) (by simp))) rfl) ?_
    refine aops_nil ?_
    refine bk_n ?_
    refine at_region ?_
    obtain ⟨hb, hF⟩ := chk_some hF
    refine s_add tabOK rfl rfl rfl hb rfl ?_
    refine sxk 1 tabOK rfl ?_
    refine aops_nil ?_
    exact arr_loop ⟨((x4 + 1), (depths5.set x4.toNat (-1))), hF, (le_down (down_all (ee_cons rfl rfl (Nat.le_of_ble_eq_true rfl) (ee_cons rfl rfl (cInstr.ok_psl _ rfl) (ee_cons rfl rfl (Nat.le_of_ble_eq_true rfl) (ee_cons rfl rfl rfl (ee_cons rfl rfl rfl ee_nil))))) (he_cons rfl rfl rfl (row_one (cImage.row_ok _ rfl)) (he_cons rfl rfl rfl (cInt.rows_ok _ rfl) he_nil)) rfl rfl rfl rfl))⟩
  · refine at_exit ?_
    refine tk_x ?_
    refine ll_x ?_
    refine bk_hit ?_
    refine at_seq ?_
    refine at_seq ?_
    refine at_region ?_
    refine sxk 1 tabOK rfl ?_
    refine sv rfl (oc_len cInstr tabOK rfl rfl rfl) rfl ?_
    refine sxk 1 tabOK rfl ?_
    refine aops_nil ?_
    refine ct_if hF rfl (fun hc hF => ?_) (fun hc hF => ?_)
    · refine at_seq ?_
      refine at_keep [] rfl ?_
      refine at_region ?_
      refine sxk 2 tabOK rfl ?_
      refine aops_nil ?_
      refine at_ret ?_
      refine tk_r ?_
      obtain rfl := Option.some.inj hF
      refine ret_le rfl ?_
      exact (vle_tup (.cons (vle_nil _ _) (.cons (vle_refl _) .nil)))
    · refine at_skip ?_
      refine at_seq ?_
      refine at_region ?_
      refine sxk 1 tabOK rfl ?_
      obtain ⟨x7, hn_x7, hF⟩ := bnd_some hF
      refine sv rfl (oc_haddr cInt hn_x7 tabOK rfl rfl rfl rfl) rfl ?_
      refine sc_store cInt (v' := 0) hn_x7 tabOK rfl rfl rfl rfl rfl rfl rfl rfl ?_
      refine ops_le (le_slot (y := .hsl 4 0 (depths5.set (0 : Int).toNat 0).length) 7 rfl (vle_eq (congrArg (V.hsl 4 0) (by simp))) rfl) ?_
      refine aops_nil ?_
      refine at_seq ?_
      refine at_seq ?_
      refine at_keep [2, 6, 7] rfl ?_
      refine at_region ?_
      refine sxk 1 tabOK rfl ?_
      refine sv rfl (oc_len cInstr tabOK rfl rfl rfl) rfl ?_
      refine sxk 1 tabOK rfl ?_
      refine aops_nil ?_
      refine at_block ?_
      refine cl_loop (σ := Int × List Int) (fun v => match v with | (x8, depths9) => ⟨[(2, .ptr 3 1 0 0), (6, .psl 0 6 (x3.instrs.map (cInstr.enc 0))), (7, .hsl 4 0 depths9.length), (40, .psl 0 6 (x3.instrs.map (cInstr.enc 0))), (41, .int .i64 (x3.instrs.length : Int)), (42, .int .i64 x8)], [(3, ⟨2, [cImage.row 0 m]⟩), (4, ⟨1, depths9.map (cInt.enc 0)⟩)], 5, 151, []⟩) (s_l10Depths_L2 m x3) LF (0, (depths5.set (0 : Int).toNat 0)) hF (le_down (down_all (ee_cons rfl rfl (Nat.le_of_ble_eq_true rfl) (ee_cons rfl rfl (cInstr.ok_psl _ rfl) (ee_cons rfl rfl (Nat.le_of_ble_eq_true rfl) (ee_cons rfl rfl (cInstr.ok_psl _ rfl) (ee_cons rfl rfl rfl (ee_cons rfl rfl rfl ee_nil)))))) (he_cons rfl rfl rfl (row_one (cImage.row_ok _ rfl)) (he_cons rfl rfl rfl (cInt.rows_ok _ rfl) he_nil)) rfl rfl rfl rfl)) ?_
      rintro lk_ ⟨x8, depths9⟩ hF
      refine at_eq (s' := ⟨[(2, .ptr 3 1 0 0), (6, .psl 0 6 (x3.instrs.map (cInstr.enc 0))), (7, .hsl 4 0 depths9.length), (40, .psl 0 6 (x3.instrs.map (cInstr.enc 0))), (41, .int .i64 (x3.instrs.length : Int)), (42, .int .i64 x8)], [(3, ⟨2, [cImage.row 0 m]⟩), (4, ⟨1, depths9.map (cInt.enc 0)⟩)], 5, 151, []⟩) rfl ?_
      replace hF : s_l10Depths_L2b m x3 (itr (s_l10Depths_L2 m x3) lk_) x8 depths9 = some q := hF
      unfold s_l10Depths_L2b at hF
      generalize itr (s_l10Depths_L2 m x3) lk_ = go10 at hF ⊢
      refine at_seq ?_
      refine at_region ?_
      refine sxk 1 tabOK rfl ?_
      refine aops_nil ?_
      refine at_seq ?_
      refine ct_if hF rfl (fun hc hF => ?_) (fun hc hF => ?_)
      · refine at_skip ?_
        refine at_seq ?_
        refine cl_midn (σ := List Int) (fun depths11 => ⟨[(2, .ptr 3 1 0 0), (6, .psl 0 6 (x3.instrs.map (cInstr.enc 0))), (7, .hsl 4 0 depths11.length), (40, .psl 0 6 (x3.instrs.map (cInstr.enc 0))), (41, .int .i64 (x3.instrs.length : Int)), (42, .int .i64 x8)], [(3, ⟨2, [cImage.row 0 m]⟩), (4, ⟨1, depths11.map (cInt.enc 0)⟩)], 5, 151, []⟩) (fun depths11 => s_l10Depths_J3 x8 go10 depths11 = some q) ?_ ?_
        · refine at_block ?_
          refine at_seq ?_
          refine at_region ?_
          refine sxk 1 tabOK rfl ?_
          obtain ⟨x11, hn_x11, hF⟩ := bnd_some hF
          refine sv rfl (oc_addr cInstr hn_x11 tabOK rfl rfl rfl rfl) rfl ?_
          refine sxk 4 tabOK rfl ?_
          refine aops_nil ?_
          refine at_seq ?_
          refine at_seq ?_
          refine at_region ?_
          refine sxk 2 tabOK rfl ?_
          obtain ⟨x12, hn_x12, hF⟩ := bnd_some hF
          refine sv rfl (oc_haddr cInt hn_x12 tabOK rfl rfl rfl rfl) rfl ?_
          refine sv rfl (oc_load cInt hn_x12 tabOK rfl rfl rfl rfl) rfl ?_
          refine sxk 1 tabOK rfl ?_
          refine aops_nil ?_
          refine ct_if hF rfl (fun hc hF => ?_) (fun hc hF => ?_)
          · refine at_exit ?_
            refine tk_x ?_
            refine bk_hit ?_
            exact arr_cut ⟨depths9, hF, (le_down (down_all (ee_cons rfl rfl (Nat.le_of_ble_eq_true rfl) (ee_cons rfl rfl (cInstr.ok_psl _ rfl) (ee_cons rfl rfl (Nat.le_of_ble_eq_true rfl) (ee_cons rfl rfl (cInstr.ok_psl _ rfl) (ee_cons rfl rfl rfl (ee_cons rfl rfl rfl ee_nil)))))) (he_cons rfl rfl rfl (row_one (cImage.row_ok _ rfl)) (he_cons rfl rfl rfl (cInt.rows_ok _ rfl) he_nil)) rfl rfl rfl rfl))⟩
          · refine at_skip ?_
            refine at_seq ?_
            refine at_keep [2, 6, 7, 9, 10, 40, 41, 42] rfl ?_
            refine at_region ?_
            refine sxk 2 tabOK rfl ?_
            obtain ⟨x13, hx13, hF⟩ := bnd_some hF
            refine call_eq (s_l10Effect_ok m x11 x13 hx13) rfl ((rlL_cons (cImage.rl_agg (l := 0) (l' := 0) _ m rfl) (rlL_cons (cInstr.rl_agg (l := 0) (l' := 0) _ x11 rfl) rlL_nil))) (rl_tupL (rlL_cons (rfl) (rlL_cons (rfl) rlL_nil))) rfl ?_
            refine sxk 5 tabOK rfl ?_
            refine aops_nil ?_
            refine at_seq ?_
            refine at_region ?_
            refine sxk 2 tabOK rfl ?_
            obtain ⟨x14, hn_x14, hF⟩ := bnd_some hF
            refine sv rfl (oc_haddr cInt hn_x14 tabOK rfl rfl rfl rfl) rfl ?_
            refine sv rfl (oc_load cInt hn_x14 tabOK rfl rfl rfl rfl) rfl ?_
            refine sxk 1 tabOK rfl ?_
            obtain ⟨hb, hF⟩ := chk_some hF
            refine s_sub tabOK rfl rfl rfl hb rfl ?_
            refine sxk 1 tabOK rfl ?_
            refine aops_nil ?_
            refine at_seq ?_
            refine at_seq ?_
            refine cl_midn (σ := Bool) (fun x15 => ⟨[(2, .ptr 3 1 0 0), (6, .psl 0 6 (x3.instrs.map (cInstr.enc 0))), (7, .hsl 4 0 depths9.length), (9, .int .i64 x8), (10, .ptr 5 1 0 0), (12, .int .i64 x13.2), (13, .int .i64 (x14 - x13.1)), (40, .psl 0 6 (x3.instrs.map (cInstr.enc 0))), (41, .int .i64 (x3.instrs.length : Int)), (42, .int .i64 x8), (89, .bool x15)], [(3, ⟨2, [cImage.row 0 m]⟩), (4, ⟨1, depths9.map (cInt.enc 0)⟩), (5, ⟨6, [cInstr.row 0 x11]⟩)], 6, 151, []⟩) (fun x15 => s_l10Depths_J4 x3 x8 depths9 go10 x11 x13 x14 x15 = some q) ?_ ?_
            · refine at_keep [2, 6, 7, 9, 10, 12, 13, 40, 41, 42] rfl ?_
              refine at_region ?_
              refine sxk 3 tabOK rfl ?_
              refine ops_if (g := 66) hF rfl (fun hc hF => ?_) (fun hc hF => ?_)
              · refine sxk 23 tabOK rfl ?_
                refine aops_nil ?_
                exact arr_cut ⟨true, hF, (le_down (down_all (ee_cons rfl rfl (Nat.le_of_ble_eq_true rfl) (ee_cons rfl rfl (cInstr.ok_psl _ rfl) (ee_cons rfl rfl (Nat.le_of_ble_eq_true rfl) (ee_cons rfl rfl rfl (ee_cons rfl rfl (Nat.le_of_ble_eq_true rfl) (ee_cons rfl rfl rfl (ee_cons rfl rfl rfl (ee_cons rfl rfl (cInstr.ok_psl _ rfl) (ee_cons rfl rfl rfl (ee_cons rfl rfl rfl (ee_cons rfl rfl rfl ee_nil))))))))))) (he_cons rfl rfl rfl (row_one (cImage.row_ok _ rfl)) (he_cons rfl rfl rfl (cInt.rows_ok _ rfl) (he_cons rfl rfl rfl (row_one (cInstr.row_ok _ rfl)) he_nil))) rfl rfl rfl rfl))⟩
              · refine sxk 2 tabOK rfl ?_
                obtain ⟨hb, hF⟩ := chk_some hF
                refine s_add tabOK rfl rfl rfl hb rfl ?_
                refine sxk 3 tabOK rfl ?_
                refine ops_if (g := 72) hF rfl (fun hc hF => ?_) (fun hc hF => ?_)
                · refine sxk 17 tabOK rfl ?_
                  refine aops_nil ?_
                  exact arr_cut ⟨true, hF, (le_down (down_all (ee_cons rfl rfl (Nat.le_of_ble_eq_true rfl) (ee_cons rfl rfl (cInstr.ok_psl _ rfl) (ee_cons rfl rfl (Nat.le_of_ble_eq_true rfl) (ee_cons rfl rfl rfl (ee_cons rfl rfl (Nat.le_of_ble_eq_true rfl) (ee_cons rfl rfl rfl (ee_cons rfl rfl rfl (ee_cons rfl rfl (cInstr.ok_psl _ rfl) (ee_cons rfl rfl rfl (ee_cons rfl rfl rfl (ee_cons rfl rfl rfl ee_nil))))))))))) (he_cons rfl rfl rfl (row_one (cImage.row_ok _ rfl)) (he_cons rfl rfl rfl (cInt.rows_ok _ rfl) (he_cons rfl rfl rfl (row_one (cInstr.row_ok _ rfl)) he_nil))) rfl rfl rfl rfl))⟩
                · refine sxk 4 tabOK rfl ?_
                  refine ops_if (g := 76) hF rfl (fun hc hF => ?_) (fun hc hF => ?_)
                  · refine sxk 5 tabOK rfl ?_
                    refine ops_ifn (g := 81) hF rfl (fun hc hF => ?_) (fun hc hF => ?_)
                    · refine sxk 8 tabOK rfl ?_
                      refine aops_nil ?_
                      exact arr_cut ⟨true, hF, (le_down (down_all (ee_cons rfl rfl (Nat.le_of_ble_eq_true rfl) (ee_cons rfl rfl (cInstr.ok_psl _ rfl) (ee_cons rfl rfl (Nat.le_of_ble_eq_true rfl) (ee_cons rfl rfl rfl (ee_cons rfl rfl (Nat.le_of_ble_eq_true rfl) (ee_cons rfl rfl rfl (ee_cons rfl rfl rfl (ee_cons rfl rfl (cInstr.ok_psl _ rfl) (ee_cons rfl rfl rfl (ee_cons rfl rfl rfl (ee_cons rfl rfl rfl ee_nil))))))))))) (he_cons rfl rfl rfl (row_one (cImage.row_ok _ rfl)) (he_cons rfl rfl rfl (cInt.rows_ok _ rfl) (he_cons rfl rfl rfl (row_one (cInstr.row_ok _ rfl)) he_nil))) rfl rfl rfl rfl))⟩
                    · refine sxk 4 tabOK rfl ?_
                      refine ops_if (g := 85) hF rfl (fun hc hF => ?_) (fun hc hF => ?_)
                      · refine sxk 4 tabOK rfl ?_
                        refine aops_nil ?_
                        exact arr_cut ⟨(!decide ((x14 - x13.1) = 0)), hF, (le_down (down_all (ee_cons rfl rfl (Nat.le_of_ble_eq_true rfl) (ee_cons rfl rfl (cInstr.ok_psl _ rfl) (ee_cons rfl rfl (Nat.le_of_ble_eq_true rfl) (ee_cons rfl rfl rfl (ee_cons rfl rfl (Nat.le_of_ble_eq_true rfl) (ee_cons rfl rfl rfl (ee_cons rfl rfl rfl (ee_cons rfl rfl (cInstr.ok_psl _ rfl) (ee_cons rfl rfl rfl (ee_cons rfl rfl rfl (ee_cons rfl rfl rfl ee_nil))))))))))) (he_cons rfl rfl rfl (row_one (cImage.row_ok _ rfl)) (he_cons rfl rfl rfl (cInt.rows_ok _ rfl) (he_cons rfl rfl rfl (row_one (cInstr.row_ok _ rfl)) he_nil))) rfl rfl rfl rfl))⟩
                      · refine sxk 4 tabOK rfl ?_
                        refine aops_nil ?_
                        exact arr_cut ⟨false, hF, (le_down (down_all (ee_cons rfl rfl (Nat.le_of_ble_eq_true rfl) (ee_cons rfl rfl (cInstr.ok_psl _ rfl) (ee_cons rfl rfl (Nat.le_of_ble_eq_true rfl) (ee_cons rfl rfl rfl (ee_cons rfl rfl (Nat.le_of_ble_eq_true rfl) (ee_cons rfl rfl rfl (ee_cons rfl rfl rfl (ee_cons rfl rfl (cInstr.ok_psl _ rfl) (ee_cons rfl rfl rfl (ee_cons rfl rfl rfl (ee_cons rfl rfl rfl ee_nil))))))))))) (he_cons rfl rfl rfl (row_one (cImage.row_ok _ rfl)) (he_cons rfl rfl rfl (cInt.rows_ok _ rfl) (he_cons rfl rfl rfl (row_one (cInstr.row_ok _ rfl)) he_nil))) rfl rfl rfl rfl))⟩
                  · refine sxk 9 tabOK rfl ?_
                    refine ops_if (g := 85) hF rfl (fun hc hF => ?_) (fun hc hF => ?_)
                    · refine sxk 4 tabOK rfl ?_
                      refine aops_nil ?_
                      exact arr_cut ⟨(!decide ((x14 - x13.1) = 0)), hF, (le_down (down_all (ee_cons rfl rfl (Nat.le_of_ble_eq_true rfl) (ee_cons rfl rfl (cInstr.ok_psl _ rfl) (ee_cons rfl rfl (Nat.le_of_ble_eq_true rfl) (ee_cons rfl rfl rfl (ee_cons rfl rfl (Nat.le_of_ble_eq_true rfl) (ee_cons rfl rfl rfl (ee_cons rfl rfl rfl (ee_cons rfl rfl (cInstr.ok_psl _ rfl) (ee_cons rfl rfl rfl (ee_cons rfl rfl rfl (ee_cons rfl rfl rfl ee_nil))))))))))) (he_cons rfl rfl rfl (row_one (cImage.row_ok _ rfl)) (he_cons rfl rfl rfl (cInt.rows_ok _ rfl) (he_cons rfl rfl rfl (row_one (cInstr.row_ok _ rfl)) he_nil))) rfl rfl rfl rfl))⟩
                    · refine sxk 4 tabOK rfl ?_
                      refine aops_nil ?_
                      exact arr_cut ⟨false, hF, (le_down (down_all (ee_cons rfl rfl (Nat.le_of_ble_eq_true rfl) (ee_cons rfl rfl (cInstr.ok_psl _ rfl) (ee_cons rfl rfl (Nat.le_of_ble_eq_true rfl) (ee_cons rfl rfl rfl (ee_cons rfl rfl (Nat.le_of_ble_eq_true rfl) (ee_cons rfl rfl rfl (ee_cons rfl rfl rfl (ee_cons rfl rfl (cInstr.ok_psl _ rfl) (ee_cons rfl rfl rfl (ee_cons rfl rfl rfl (ee_cons rfl rfl rfl ee_nil))))))))))) (he_cons rfl rfl rfl (row_one (cImage.row_ok _ rfl)) (he_cons rfl rfl rfl (cInt.rows_ok _ rfl) (he_cons rfl rfl rfl (row_one (cInstr.row_ok _ rfl)) he_nil))) rfl rfl rfl rfl))⟩
            · rintro x15 hF
              refine at_eq (s' := ⟨[(2, .ptr 3 1 0 0), (6, .psl 0 6 (x3.instrs.map (cInstr.enc 0))), (7, .hsl 4 0 depths9.length), (9, .int .i64 x8), (10, .ptr 5 1 0 0), (12, .int .i64 x13.2), (13, .int .i64 (x14 - x13.1)), (40, .psl 0 6 (x3.instrs.map (cInstr.enc 0))), (41, .int .i64 (x3.instrs.length : Int)), (42, .int .i64 x8), (89, .bool x15)], [(3, ⟨2, [cImage.row 0 m]⟩), (4, ⟨1, depths9.map (cInt.enc 0)⟩), (5, ⟨6, [cInstr.row 0 x11]⟩)], 6, 151, []⟩) rfl ?_
              replace hF : s_l10Depths_J4 x3 x8 depths9 go10 x11 x13 x14 x15 = some q := hF
              unfold s_l10Depths_J4 at hF
              refine ct_b hF rfl (fun hc hF => ?_) (fun hc hF => ?_)
              · refine at_seq ?_
                refine at_keep [] rfl ?_
                refine at_region ?_
                refine sxk 2 tabOK rfl ?_
                refine aops_nil ?_
                refine at_ret ?_
                refine tk_r ?_
                refine bk_r ?_
                refine tk_r ?_
                refine ll_r ?_
                refine bk_r ?_
                refine tk_r ?_
                obtain rfl := Option.some.inj hF
                refine ret_le rfl ?_
                exact (vle_tup (.cons (vle_nil _ _) (.cons (vle_refl _) .nil)))
              · refine at_skip ?_
                refine at_seq ?_
                refine at_region ?_
                refine sxk 1 tabOK rfl ?_
                obtain ⟨hb, hF⟩ := chk_some hF
                refine s_add tabOK rfl rfl rfl hb rfl ?_
                refine sc_slit cInt (l := 0) ([(x8 + 1)] : List Int) tabOK rfl rfl rfl rfl rfl rfl rfl ?_
                refine sxk 1 tabOK rfl ?_
                refine aops_nil ?_
                refine at_seq ?_
                refine at_seq ?_
                refine at_region ?_
                refine sxk 2 tabOK rfl ?_
                refine aops_nil ?_
                refine cl_midn (σ := List Int) (fun x16 => ⟨[(2, .ptr 3 1 0 0), (6, .psl 0 6 (x3.instrs.map (cInstr.enc 0))), (7, .hsl 4 0 depths9.length), (9, .int .i64 x8), (12, .int .i64 x13.2), (13, .int .i64 (x14 - x13.1)), (14, .hsl 8 0 x16.length), (40, .psl 0 6 (x3.instrs.map (cInstr.enc 0))), (41, .int .i64 (x3.instrs.length : Int)), (42, .int .i64 x8)], [(3, ⟨2, [cImage.row 0 m]⟩), (4, ⟨1, depths9.map (cInt.enc 0)⟩), (8, ⟨1, x16.map (cInt.enc 0)⟩)], 9, 151, []⟩) (fun x16 => s_l10Depths_J5 x3 x8 depths9 go10 x13 x14 x16 = some q) ?_ ?_
                · refine at_block ?_
                  refine at_seq ?_
                  refine at_seq ?_
                  refine at_region ?_
                  refine sxk 2 tabOK rfl ?_
                  refine aops_nil ?_
                  refine cl_midn (σ := Bool) (fun x16 => ⟨[(2, .ptr 3 1 0 0), (6, .psl 0 6 (x3.instrs.map (cInstr.enc 0))), (7, .hsl 4 0 depths9.length), (9, .int .i64 x8), (10, .ptr 5 1 0 0), (12, .int .i64 x13.2), (13, .int .i64 (x14 - x13.1)), (14, .hsl 6 0 ([(x8 + 1)] : List Int).length), (40, .psl 0 6 (x3.instrs.map (cInstr.enc 0))), (41, .int .i64 (x3.instrs.length : Int)), (42, .int .i64 x8), (94, .int .i64 x11.op), (95, .bool x16)], [(3, ⟨2, [cImage.row 0 m]⟩), (4, ⟨1, depths9.map (cInt.enc 0)⟩), (5, ⟨6, [cInstr.row 0 x11]⟩), (6, ⟨1, ([(x8 + 1)] : List Int).map (cInt.enc 0)⟩)], 7, 151, []⟩) (fun x16 => s_l10Depths_J8 x3 x8 depths9 go10 x11 x13 x14 x16 = some q) ?_ ?_
                  · refine ct_if hF rfl (fun hc hF => ?_) (fun hc hF => ?_)
                    · refine at_skip ?_
                      exact arr_cut ⟨true, hF, (le_down (down_all (ee_cons rfl rfl (Nat.le_of_ble_eq_true rfl) (ee_cons rfl rfl (cInstr.ok_psl _ rfl) (ee_cons rfl rfl (Nat.le_of_ble_eq_true rfl) (ee_cons rfl rfl rfl (ee_cons rfl rfl (Nat.le_of_ble_eq_true rfl) (ee_cons rfl rfl rfl (ee_cons rfl rfl rfl (ee_cons rfl rfl (Nat.le_of_ble_eq_true rfl) (ee_cons rfl rfl (cInstr.ok_psl _ rfl) (ee_cons rfl rfl rfl (ee_cons rfl rfl rfl (ee_cons rfl rfl rfl (ee_cons rfl rfl rfl ee_nil))))))))))))) (he_cons rfl rfl rfl (row_one (cImage.row_ok _ rfl)) (he_cons rfl rfl rfl (cInt.rows_ok _ rfl) (he_cons rfl rfl rfl (row_one (cInstr.row_ok _ rfl)) (he_cons rfl rfl rfl (cInt.rows_ok _ rfl) he_nil)))) rfl rfl rfl rfl))⟩
                    · refine at_keep [2, 6, 7, 9, 10, 12, 13, 14, 40, 41, 42, 94] rfl ?_
                      refine at_region ?_
                      refine sxk 2 tabOK rfl ?_
                      refine aops_nil ?_
                      exact arr_cut ⟨(decide (x11.op = 13)), hF, (le_down (down_all (ee_cons rfl rfl (Nat.le_of_ble_eq_true rfl) (ee_cons rfl rfl (cInstr.ok_psl _ rfl) (ee_cons rfl rfl (Nat.le_of_ble_eq_true rfl) (ee_cons rfl rfl rfl (ee_cons rfl rfl (Nat.le_of_ble_eq_true rfl) (ee_cons rfl rfl rfl (ee_cons rfl rfl rfl (ee_cons rfl rfl (Nat.le_of_ble_eq_true rfl) (ee_cons rfl rfl (cInstr.ok_psl _ rfl) (ee_cons rfl rfl rfl (ee_cons rfl rfl rfl (ee_cons rfl rfl rfl (ee_cons rfl rfl rfl ee_nil))))))))))))) (he_cons rfl rfl rfl (row_one (cImage.row_ok _ rfl)) (he_cons rfl rfl rfl (cInt.rows_ok _ rfl) (he_cons rfl rfl rfl (row_one (cInstr.row_ok _ rfl)) (he_cons rfl rfl rfl (cInt.rows_ok _ rfl) he_nil)))) rfl rfl rfl rfl))⟩
                  · rintro x16 hF
                    refine at_eq (s' := ⟨[(2, .ptr 3 1 0 0), (6, .psl 0 6 (x3.instrs.map (cInstr.enc 0))), (7, .hsl 4 0 depths9.length), (9, .int .i64 x8), (10, .ptr 5 1 0 0), (12, .int .i64 x13.2), (13, .int .i64 (x14 - x13.1)), (14, .hsl 6 0 ([(x8 + 1)] : List Int).length), (40, .psl 0 6 (x3.instrs.map (cInstr.enc 0))), (41, .int .i64 (x3.instrs.length : Int)), (42, .int .i64 x8), (94, .int .i64 x11.op), (95, .bool x16)], [(3, ⟨2, [cImage.row 0 m]⟩), (4, ⟨1, depths9.map (cInt.enc 0)⟩), (5, ⟨6, [cInstr.row 0 x11]⟩), (6, ⟨1, ([(x8 + 1)] : List Int).map (cInt.enc 0)⟩)], 7, 151, []⟩) rfl ?_
                    replace hF : s_l10Depths_J8 x3 x8 depths9 go10 x11 x13 x14 x16 = some q := hF
                    unfold s_l10Depths_J8 at hF
                    refine ct_b hF rfl (fun hc hF => ?_) (fun hc hF => ?_)
                    · refine at_region ?_
                      refine sxk 1 tabOK rfl ?_
                      refine aops_nil ?_
                      refine bk_n ?_
                      exact arr_cut ⟨[], hF, ((le_bump 8 rfl rfl).trans ((le_nilrow 14 1 rfl rfl).trans (le_down (down_all (ee_cons rfl rfl (Nat.le_of_ble_eq_true rfl) (ee_cons rfl rfl (cInstr.ok_psl _ rfl) (ee_cons rfl rfl (Nat.le_of_ble_eq_true rfl) (ee_cons rfl rfl rfl (ee_cons rfl rfl rfl (ee_cons rfl rfl rfl (ee_cons rfl rfl (Nat.le_of_ble_eq_true rfl) (ee_cons rfl rfl (cInstr.ok_psl _ rfl) (ee_cons rfl rfl rfl (ee_cons rfl rfl rfl ee_nil)))))))))) (he_cons rfl rfl rfl (row_one (cImage.row_ok _ rfl)) (he_cons rfl rfl rfl (cInt.rows_ok _ rfl) (he_cons rfl rfl rfl (cInt.rows_ok _ rfl) he_nil))) rfl rfl rfl rfl))))⟩
                    · refine at_seq ?_
                      refine at_region ?_
                      refine sxk 2 tabOK rfl ?_
                      refine aops_nil ?_
                      refine ct_if hF rfl (fun hc hF => ?_) (fun hc hF => ?_)
                      · refine at_region ?_
                        refine sxk 2 tabOK rfl ?_
                        refine sc_slit cInt (l := 0) ([x11.a] : List Int) tabOK rfl rfl rfl rfl rfl rfl rfl ?_
                        refine sxk 1 tabOK rfl ?_
                        refine aops_nil ?_
                        refine bk_n ?_
                        exact arr_cut ⟨([x11.a] : List Int), hF, ((le_renum 14 rfl rfl (by simp) rfl).trans (le_down (down_all (ee_cons rfl rfl (Nat.le_of_ble_eq_true rfl) (ee_cons rfl rfl (cInstr.ok_psl _ rfl) (ee_cons rfl rfl (Nat.le_of_ble_eq_true rfl) (ee_cons rfl rfl rfl (ee_cons rfl rfl rfl (ee_cons rfl rfl rfl (ee_cons rfl rfl (Nat.le_of_ble_eq_true rfl) (ee_cons rfl rfl (cInstr.ok_psl _ rfl) (ee_cons rfl rfl rfl (ee_cons rfl rfl rfl ee_nil)))))))))) (he_cons rfl rfl rfl (row_one (cImage.row_ok _ rfl)) (he_cons rfl rfl rfl (cInt.rows_ok _ rfl) (he_cons rfl rfl rfl (cInt.rows_ok _ rfl) he_nil))) rfl rfl rfl rfl)))⟩
                      · refine at_seq ?_
                        refine at_region ?_
                        refine sxk 2 tabOK rfl ?_
                        refine aops_nil ?_
                        refine ct_if hF rfl (fun hc hF => ?_) (fun hc hF => ?_)
                        · refine at_region ?_
                          refine sxk 3 tabOK rfl ?_
                          refine sc_slit cInt (l := 0) ([x11.a] : List Int) tabOK rfl rfl rfl rfl rfl rfl rfl ?_
                          obtain ⟨hb, hF⟩ := chk_some hF
                          refine sc_append cInt (l := 0) (xs := ([(x8 + 1)] : List Int)) (ys := ([x11.a] : List Int)) hb rfl tabOK rfl rfl rfl rfl rfl rfl rfl (srcC_hsl cInt rfl rfl rfl) rfl ?_
                          refine sxk 1 tabOK rfl ?_
                          refine aops_nil ?_
                          refine bk_n ?_
                          exact arr_cut ⟨(([(x8 + 1)] : List Int) ++ ([x11.a] : List Int)), hF, ((le_renum 14 rfl rfl (by simp) rfl).trans (le_down (down_all (ee_cons rfl rfl (Nat.le_of_ble_eq_true rfl) (ee_cons rfl rfl (cInstr.ok_psl _ rfl) (ee_cons rfl rfl (Nat.le_of_ble_eq_true rfl) (ee_cons rfl rfl rfl (ee_cons rfl rfl rfl (ee_cons rfl rfl rfl (ee_cons rfl rfl (Nat.le_of_ble_eq_true rfl) (ee_cons rfl rfl (cInstr.ok_psl _ rfl) (ee_cons rfl rfl rfl (ee_cons rfl rfl rfl ee_nil)))))))))) (he_cons rfl rfl rfl (row_one (cImage.row_ok _ rfl)) (he_cons rfl rfl rfl (cInt.rows_ok _ rfl) (he_cons rfl rfl rfl (cInt.rows_ok _ rfl) he_nil))) rfl rfl rfl rfl)))⟩
                        · refine at_skip ?_
                          refine bk_n ?_
                          exact arr_cut ⟨([(x8 + 1)] : List Int), hF, ((le_bump 8 rfl rfl).trans ((le_renum 14 rfl rfl (by simp) rfl).trans (le_down (down_all (ee_cons rfl rfl (Nat.le_of_ble_eq_true rfl) (ee_cons rfl rfl (cInstr.ok_psl _ rfl) (ee_cons rfl rfl (Nat.le_of_ble_eq_true rfl) (ee_cons rfl rfl rfl (ee_cons rfl rfl rfl (ee_cons rfl rfl rfl (ee_cons rfl rfl (Nat.le_of_ble_eq_true rfl) (ee_cons rfl rfl (cInstr.ok_psl _ rfl) (ee_cons rfl rfl rfl (ee_cons rfl rfl rfl ee_nil)))))))))) (he_cons rfl rfl rfl (row_one (cImage.row_ok _ rfl)) (he_cons rfl rfl rfl (cInt.rows_ok _ rfl) (he_cons rfl rfl rfl (cInt.rows_ok _ rfl) he_nil))) rfl rfl rfl rfl))))⟩
                · rintro x16 hF
                  refine at_eq (s' := ⟨[(2, .ptr 3 1 0 0), (6, .psl 0 6 (x3.instrs.map (cInstr.enc 0))), (7, .hsl 4 0 depths9.length), (9, .int .i64 x8), (12, .int .i64 x13.2), (13, .int .i64 (x14 - x13.1)), (14, .hsl 8 0 x16.length), (40, .psl 0 6 (x3.instrs.map (cInstr.enc 0))), (41, .int .i64 (x3.instrs.length : Int)), (42, .int .i64 x8)], [(3, ⟨2, [cImage.row 0 m]⟩), (4, ⟨1, depths9.map (cInt.enc 0)⟩), (8, ⟨1, x16.map (cInt.enc 0)⟩)], 9, 151, []⟩) rfl ?_
                  replace hF : s_l10Depths_J5 x3 x8 depths9 go10 x13 x14 x16 = some q := hF
                  unfold s_l10Depths_J5 at hF
                  refine at_seq ?_
                  refine at_region ?_
                  refine sxk 1 tabOK rfl ?_
                  refine sv rfl (oc_hlen cInt tabOK rfl rfl rfl) rfl ?_
                  refine sxk 1 tabOK rfl ?_
                  refine aops_nil ?_
                  refine at_block ?_
                  refine cl_loop (σ := Int × List Int) (fun v => match v with | (x17, depths18) => ⟨[(2, .ptr 3 1 0 0), (6, .psl 0 6 (x3.instrs.map (cInstr.enc 0))), (7, .hsl 4 0 depths18.length), (9, .int .i64 x8), (12, .int .i64 x13.2), (13, .int .i64 (x14 - x13.1)), (40, .psl 0 6 (x3.instrs.map (cInstr.enc 0))), (41, .int .i64 (x3.instrs.length : Int)), (42, .int .i64 x8), (110, .hsl 8 0 x16.length), (111, .int .i64 (x16.length : Int)), (112, .int .i64 x17)], [(3, ⟨2, [cImage.row 0 m]⟩), (4, ⟨1, depths18.map (cInt.enc 0)⟩), (8, ⟨1, x16.map (cInt.enc 0)⟩)], 9, 151, []⟩) (s_l10Depths_L6 x3 x8 go10 x13 x14 x16) LF (0, depths9) hF (le_down (down_all (ee_cons rfl rfl (Nat.le_of_ble_eq_true rfl) (ee_cons rfl rfl (cInstr.ok_psl _ rfl) (ee_cons rfl rfl (Nat.le_of_ble_eq_true rfl) (ee_cons rfl rfl rfl (ee_cons rfl rfl rfl (ee_cons rfl rfl rfl (ee_cons rfl rfl (cInstr.ok_psl _ rfl) (ee_cons rfl rfl rfl (ee_cons rfl rfl rfl (ee_cons rfl rfl (Nat.le_of_ble_eq_true rfl) (ee_cons rfl rfl rfl (ee_cons rfl rfl rfl ee_nil)))))))))))) (he_cons rfl rfl rfl (row_one (cImage.row_ok _ rfl)) (he_cons rfl rfl rfl (cInt.rows_ok _ rfl) (he_cons rfl rfl rfl (cInt.rows_ok _ rfl) he_nil))) rfl rfl rfl rfl)) ?_
                  rintro lk_ ⟨x17, depths18⟩ hF
                  refine at_eq (s' := ⟨[(2, .ptr 3 1 0 0), (6, .psl 0 6 (x3.instrs.map (cInstr.enc 0))), (7, .hsl 4 0 depths18.length), (9, .int .i64 x8), (12, .int .i64 x13.2), (13, .int .i64 (x14 - x13.1)), (40, .psl 0 6 (x3.instrs.map (cInstr.enc 0))), (41, .int .i64 (x3.instrs.length : Int)), (42, .int .i64 x8), (110, .hsl 8 0 x16.length), (111, .int .i64 (x16.length : Int)), (112, .int .i64 x17)], [(3, ⟨2, [cImage.row 0 m]⟩), (4, ⟨1, depths18.map (cInt.enc 0)⟩), (8, ⟨1, x16.map (cInt.enc 0)⟩)], 9, 151, []⟩) rfl ?_
                  replace hF : s_l10Depths_L6b x3 x8 go10 x13 x14 x16 (itr (s_l10Depths_L6 x3 x8 go10 x13 x14 x16) lk_) x17 depths18 = some q := hF
                  unfold s_l10Depths_L6b at hF
                  generalize itr (s_l10Depths_L6 x3 x8 go10 x13 x14 x16) lk_ = go19 at hF ⊢
                  refine at_seq ?_
                  refine at_region ?_
                  refine sxk 1 tabOK rfl ?_
                  refine aops_nil ?_
                  refine at_seq ?_
                  refine ct_if hF rfl (fun hc hF => ?_) (fun hc hF => ?_)
                  · refine at_skip ?_
                    refine at_seq ?_
                    refine at_block ?_
                    refine at_seq ?_
                    refine at_region ?_
                    obtain ⟨x20, hn_x20, hF⟩ := bnd_some hF
                    refine sv rfl (oc_haddr cInt hn_x20 tabOK rfl rfl rfl rfl) rfl ?_
                    refine sv rfl (oc_load cInt hn_x20 tabOK rfl rfl rfl rfl) rfl ?_
                    refine sxk 1 tabOK rfl ?_
                    refine aops_nil ?_
                    refine at_seq ?_
                    refine at_seq ?_
                    refine cl_midn (σ := Bool) (fun x21 => ⟨[(2, .ptr 3 1 0 0), (6, .psl 0 6 (x3.instrs.map (cInstr.enc 0))), (7, .hsl 4 0 depths18.length), (9, .int .i64 x8), (12, .int .i64 x13.2), (13, .int .i64 (x14 - x13.1)), (16, .int .i64 x20), (40, .psl 0 6 (x3.instrs.map (cInstr.enc 0))), (41, .int .i64 (x3.instrs.length : Int)), (42, .int .i64 x8), (110, .hsl 8 0 x16.length), (111, .int .i64 (x16.length : Int)), (112, .int .i64 x17), (141, .bool x21)], [(3, ⟨2, [cImage.row 0 m]⟩), (4, ⟨1, depths18.map (cInt.enc 0)⟩), (8, ⟨1, x16.map (cInt.enc 0)⟩)], 9, 151, []⟩) (fun x21 => s_l10Depths_J7 x13 x14 x17 depths18 go19 x20 x21 = some q) ?_ ?_
                    · refine at_region ?_
                      refine sxk 4 tabOK rfl ?_
                      refine ops_if (g := 119) hF rfl (fun hc hF => ?_) (fun hc hF => ?_)
                      · refine sxk 22 tabOK rfl ?_
                        refine aops_nil ?_
                        exact arr_cut ⟨true, hF, (le_down (down_all (ee_cons rfl rfl (Nat.le_of_ble_eq_true rfl) (ee_cons rfl rfl (cInstr.ok_psl _ rfl) (ee_cons rfl rfl (Nat.le_of_ble_eq_true rfl) (ee_cons rfl rfl rfl (ee_cons rfl rfl rfl (ee_cons rfl rfl rfl (ee_cons rfl rfl rfl (ee_cons rfl rfl (cInstr.ok_psl _ rfl) (ee_cons rfl rfl rfl (ee_cons rfl rfl rfl (ee_cons rfl rfl (Nat.le_of_ble_eq_true rfl) (ee_cons rfl rfl rfl (ee_cons rfl rfl rfl (ee_cons rfl rfl rfl ee_nil)))))))))))))) (he_cons rfl rfl rfl (row_one (cImage.row_ok _ rfl)) (he_cons rfl rfl rfl (cInt.rows_ok _ rfl) (he_cons rfl rfl rfl (cInt.rows_ok _ rfl) he_nil))) rfl rfl rfl rfl))⟩
                      · refine sxk 2 tabOK rfl ?_
                        refine sv rfl (oc_len cInstr tabOK rfl rfl rfl) rfl ?_
                        refine sxk 3 tabOK rfl ?_
                        refine ops_if (g := 125) hF rfl (fun hc hF => ?_) (fun hc hF => ?_)
                        · refine sxk 16 tabOK rfl ?_
                          refine aops_nil ?_
                          exact arr_cut ⟨true, hF, (le_down (down_all (ee_cons rfl rfl (Nat.le_of_ble_eq_true rfl) (ee_cons rfl rfl (cInstr.ok_psl _ rfl) (ee_cons rfl rfl (Nat.le_of_ble_eq_true rfl) (ee_cons rfl rfl rfl (ee_cons rfl rfl rfl (ee_cons rfl rfl rfl (ee_cons rfl rfl rfl (ee_cons rfl rfl (cInstr.ok_psl _ rfl) (ee_cons rfl rfl rfl (ee_cons rfl rfl rfl (ee_cons rfl rfl (Nat.le_of_ble_eq_true rfl) (ee_cons rfl rfl rfl (ee_cons rfl rfl rfl (ee_cons rfl rfl rfl ee_nil)))))))))))))) (he_cons rfl rfl rfl (row_one (cImage.row_ok _ rfl)) (he_cons rfl rfl rfl (cInt.rows_ok _ rfl) (he_cons rfl rfl rfl (cInt.rows_ok _ rfl) he_nil))) rfl rfl rfl rfl))⟩
                        · refine sxk 2 tabOK rfl ?_
                          obtain ⟨x21, hn_x21, hF⟩ := bnd_some hF
                          refine sv rfl (oc_haddr cInt hn_x21 tabOK rfl rfl rfl rfl) rfl ?_
                          refine sv rfl (oc_load cInt hn_x21 tabOK rfl rfl rfl rfl) rfl ?_
                          refine sxk 2 tabOK rfl ?_
                          refine ops_if (g := 131) hF rfl (fun hc hF => ?_) (fun hc hF => ?_)
                          · refine sxk 2 tabOK rfl ?_
                            obtain ⟨x22, hn_x22, hF⟩ := bnd_some hF
                            refine sv rfl (oc_haddr cInt hn_x22 tabOK rfl rfl rfl rfl) rfl ?_
                            refine sv rfl (oc_load cInt hn_x22 tabOK rfl rfl rfl rfl) rfl ?_
                            refine sxk 2 tabOK rfl ?_
                            obtain ⟨hb, hF⟩ := chk_some hF
                            refine s_add tabOK rfl rfl rfl hb rfl ?_
                            refine sxk 3 tabOK rfl ?_
                            refine aops_nil ?_
                            exact arr_cut ⟨(!decide (x22 = ((x14 - x13.1) + x13.2))), hF, (le_down (down_all (ee_cons rfl rfl (Nat.le_of_ble_eq_true rfl) (ee_cons rfl rfl (cInstr.ok_psl _ rfl) (ee_cons rfl rfl (Nat.le_of_ble_eq_true rfl) (ee_cons rfl rfl rfl (ee_cons rfl rfl rfl (ee_cons rfl rfl rfl (ee_cons rfl rfl rfl (ee_cons rfl rfl (cInstr.ok_psl _ rfl) (ee_cons rfl rfl rfl (ee_cons rfl rfl rfl (ee_cons rfl rfl (Nat.le_of_ble_eq_true rfl) (ee_cons rfl rfl rfl (ee_cons rfl rfl rfl (ee_cons rfl rfl rfl ee_nil)))))))))))))) (he_cons rfl rfl rfl (row_one (cImage.row_ok _ rfl)) (he_cons rfl rfl rfl (cInt.rows_ok _ rfl) (he_cons rfl rfl rfl (cInt.rows_ok _ rfl) he_nil))) rfl rfl rfl rfl))⟩
                          · refine sxk 10 tabOK rfl ?_
                            refine aops_nil ?_
                            exact arr_cut ⟨false, hF, (le_down (down_all (ee_cons rfl rfl (Nat.le_of_ble_eq_true rfl) (ee_cons rfl rfl (cInstr.ok_psl _ rfl) (ee_cons rfl rfl (Nat.le_of_ble_eq_true rfl) (ee_cons rfl rfl rfl (ee_cons rfl rfl rfl (ee_cons rfl rfl rfl (ee_cons rfl rfl rfl (ee_cons rfl rfl (cInstr.ok_psl _ rfl) (ee_cons rfl rfl rfl (ee_cons rfl rfl rfl (ee_cons rfl rfl (Nat.le_of_ble_eq_true rfl) (ee_cons rfl rfl rfl (ee_cons rfl rfl rfl (ee_cons rfl rfl rfl ee_nil)))))))))))))) (he_cons rfl rfl rfl (row_one (cImage.row_ok _ rfl)) (he_cons rfl rfl rfl (cInt.rows_ok _ rfl) (he_cons rfl rfl rfl (cInt.rows_ok _ rfl) he_nil))) rfl rfl rfl rfl))⟩
                    · rintro x21 hF
                      refine at_eq (s' := ⟨[(2, .ptr 3 1 0 0), (6, .psl 0 6 (x3.instrs.map (cInstr.enc 0))), (7, .hsl 4 0 depths18.length), (9, .int .i64 x8), (12, .int .i64 x13.2), (13, .int .i64 (x14 - x13.1)), (16, .int .i64 x20), (40, .psl 0 6 (x3.instrs.map (cInstr.enc 0))), (41, .int .i64 (x3.instrs.length : Int)), (42, .int .i64 x8), (110, .hsl 8 0 x16.length), (111, .int .i64 (x16.length : Int)), (112, .int .i64 x17), (141, .bool x21)], [(3, ⟨2, [cImage.row 0 m]⟩), (4, ⟨1, depths18.map (cInt.enc 0)⟩), (8, ⟨1, x16.map (cInt.enc 0)⟩)], 9, 151, []⟩) rfl ?_
                      replace hF : s_l10Depths_J7 x13 x14 x17 depths18 go19 x20 x21 = some q := hF
                      unfold s_l10Depths_J7 at hF
                      refine ct_b hF rfl (fun hc hF => ?_) (fun hc hF => ?_)
                      · refine at_seq ?_
                        refine at_keep [] rfl ?_
                        refine at_region ?_
                        refine sxk 2 tabOK rfl ?_
                        refine aops_nil ?_
                        refine at_ret ?_
                        refine tk_r ?_
                        refine bk_r ?_
                        refine tk_r ?_
                        refine ll_r ?_
                        refine bk_r ?_
                        refine bk_r ?_
                        refine tk_r ?_
                        refine ll_r ?_
                        refine bk_r ?_
                        refine tk_r ?_
                        obtain rfl := Option.some.inj hF
                        refine ret_le rfl ?_
                        exact (vle_tup (.cons (vle_nil _ _) (.cons (vle_refl _) .nil)))
                      · refine at_skip ?_
                        refine at_region ?_
                        refine sxk 4 tabOK rfl ?_
                        obtain ⟨hb, hF⟩ := chk_some hF
                        refine s_add tabOK rfl rfl rfl hb rfl ?_
                        obtain ⟨x22, hn_x22, hF⟩ := bnd_some hF
                        refine sv rfl (oc_haddr cInt hn_x22 tabOK rfl rfl rfl rfl) rfl ?_
                        refine sc_store cInt (v' := ((x14 - x13.1) + x13.2)) hn_x22 tabOK rfl rfl rfl rfl rfl rfl rfl rfl ?_
                        refine ops_le (le_slot (y := .hsl 4 0 (depths18.set x20.toNat ((x14 - x13.1) + x13.2)).length) 7 rfl (vle_eq (congrArg (V.hsl 4 0) (by simp))) rfl) ?_
                        refine aops_nil ?_
                        refine bk_n ?_
                        refine at_keep [2, 6, 7, 9, 12, 13, 40, 41, 42, 110, 111, 112] rfl ?_
                        refine at_region ?_
                        obtain ⟨hb, hF⟩ := chk_some hF
                        refine s_add tabOK rfl rfl rfl hb rfl ?_
                        refine sxk 1 tabOK rfl ?_
                        refine aops_nil ?_
                        exact arr_loop ⟨((x17 + 1), (depths18.set x20.toNat ((x14 - x13.1) + x13.2))), hF, (le_down (down_all (ee_cons rfl rfl (Nat.le_of_ble_eq_true rfl) (ee_cons rfl rfl (cInstr.ok_psl _ rfl) (ee_cons rfl rfl (Nat.le_of_ble_eq_true rfl) (ee_cons rfl rfl rfl (ee_cons rfl rfl rfl (ee_cons rfl rfl rfl (ee_cons rfl rfl (cInstr.ok_psl _ rfl) (ee_cons rfl rfl rfl (ee_cons rfl rfl rfl (ee_cons rfl rfl (Nat.le_of_ble_eq_true rfl) (ee_cons rfl rfl rfl (ee_cons rfl rfl rfl ee_nil)))))))))))) (he_cons rfl rfl rfl (row_one (cImage.row_ok _ rfl)) (he_cons rfl rfl rfl (cInt.rows_ok _ rfl) (he_cons rfl rfl rfl (cInt.rows_ok _ rfl) he_nil))) rfl rfl rfl rfl))⟩
                  · refine at_exit ?_
                    refine tk_x ?_
                    refine ll_x ?_
                    refine bk_hit ?_
                    refine bk_n ?_
                    exact arr_cut ⟨depths18, hF, (le_down (down_all (ee_cons rfl rfl (Nat.le_of_ble_eq_true rfl) (ee_cons rfl rfl (cInstr.ok_psl _ rfl) (ee_cons rfl rfl (Nat.le_of_ble_eq_true rfl) (ee_cons rfl rfl (cInstr.ok_psl _ rfl) (ee_cons rfl rfl rfl (ee_cons rfl rfl rfl ee_nil)))))) (he_cons rfl rfl rfl (row_one (cImage.row_ok _ rfl)) (he_cons rfl rfl rfl (cInt.rows_ok _ rfl) he_nil)) rfl rfl rfl rfl))⟩
        · rintro depths11 hF
          refine at_eq (s' := ⟨[(2, .ptr 3 1 0 0), (6, .psl 0 6 (x3.instrs.map (cInstr.enc 0))), (7, .hsl 4 0 depths11.length), (40, .psl 0 6 (x3.instrs.map (cInstr.enc 0))), (41, .int .i64 (x3.instrs.length : Int)), (42, .int .i64 x8)], [(3, ⟨2, [cImage.row 0 m]⟩), (4, ⟨1, depths11.map (cInt.enc 0)⟩)], 5, 151, []⟩) rfl ?_
          replace hF : s_l10Depths_J3 x8 go10 depths11 = some q := hF
          unfold s_l10Depths_J3 at hF
          refine at_region ?_
          obtain ⟨hb, hF⟩ := chk_some hF
          refine s_add tabOK rfl rfl rfl hb rfl ?_
          refine sxk 1 tabOK rfl ?_
          refine aops_nil ?_
          exact arr_loop ⟨((x8 + 1), depths11), hF, (le_down (down_all (ee_cons rfl rfl (Nat.le_of_ble_eq_true rfl) (ee_cons rfl rfl (cInstr.ok_psl _ rfl) (ee_cons rfl rfl (Nat.le_of_ble_eq_true rfl) (ee_cons rfl rfl (cInstr.ok_psl _ rfl) (ee_cons rfl rfl rfl (ee_cons rfl rfl rfl ee_nil)))))) (he_cons rfl rfl rfl (row_one (cImage.row_ok _ rfl)) (he_cons rfl rfl rfl (cInt.rows_ok _ rfl) he_nil)) rfl rfl rfl rfl))⟩
      · refine at_exit ?_
        refine tk_x ?_
        refine ll_x ?_
        refine bk_hit ?_
        refine at_seq ?_
        refine at_region ?_
        refine sxk 3 tabOK rfl ?_
        refine aops_nil ?_
        refine at_le (le_freeze 4 rfl rfl (by simp) rfl) ?_
        refine at_ret ?_
        obtain rfl := Option.some.inj hF
        refine ret_le rfl ?_
        exact (vle_tup (.cons (vle_refl _) (.cons (vle_refl _) .nil)))

theorem s_StackDepths_ok (m : PImage) (code : Int) (q : List Int × Bool) (hF : s_StackDepths m code = some q) : FC Try.prog 43 [.agg (cImage.row 0 m), .int .i64 code] [] 3 (fun x _ => x = .tup [.psl 1 1 (q.1.map (cInt.enc 1)), .bool q.2]) := by
  refine FC.of_le ?_
  refine fc_body tabOK Try.func43 rfl Try.ntmps43 rfl rfl rfl ?_
  unfold s_StackDepths at hF
  refine at_seq ?_
  refine at_region ?_
  refine sxk 3 tabOK rfl ?_
  refine aops_nil ?_
  refine at_seq ?_
  refine at_seq ?_
  refine at_region ?_
  refine sxk 3 tabOK rfl ?_
  refine sv rfl (oc_len cCode tabOK rfl rfl rfl) rfl ?_
  obtain ⟨hb, hF⟩ := chk_some hF
  refine s_sub tabOK rfl rfl rfl hb rfl ?_
  obtain ⟨x3, hx3, hF⟩ := bnd_some hF
  refine call_eq (s_l1In_ok code 0 ((m.codes.length : Int) - 1) x3 hx3) rfl ((rlL_cons (rfl) (rlL_cons (rfl) (rlL_cons (rfl) rlL_nil)))) rfl rfl ?_
  refine sxk 1 tabOK rfl ?_
  refine aops_nil ?_
  refine ct_bn hF rfl (fun hc hF => ?_) (fun hc hF => ?_)
  · refine at_seq ?_
    refine at_keep [] rfl ?_
    refine at_region ?_
    refine sxk 2 tabOK rfl ?_
    refine aops_nil ?_
    refine at_ret ?_
    refine tk_r ?_
    obtain rfl := Option.some.inj hF
    refine ret_le rfl ?_
    exact (vle_tup (.cons (vle_nil _ _) (.cons (vle_refl _) .nil)))
  · refine at_skip ?_
    refine at_seq ?_
    refine at_seq ?_
    refine at_keep [1, 2] rfl ?_
    refine at_region ?_
    refine sxk 1 tabOK rfl ?_
    refine aops_nil ?_
    refine at_block ?_
    refine cl_loop (σ := Int) (fun i4 => ⟨[(1, .int .i64 code), (2, .ptr 3 1 0 0), (6, .int .i64 i4)], [(3, ⟨2, [cImage.row 0 m]⟩)], 4, 28, []⟩) (s_StackDepths_L1 m code) LF 0 hF (le_down (down_all (ee_cons rfl rfl rfl (ee_cons rfl rfl (Nat.le_of_ble_eq_true rfl) (ee_cons rfl rfl rfl ee_nil))) (he_cons rfl rfl rfl (row_one (cImage.row_ok _ rfl)) he_nil) rfl rfl rfl rfl)) ?_
    rintro lk_ i4 hF
    refine at_eq (s' := ⟨[(1, .int .i64 code), (2, .ptr 3 1 0 0), (6, .int .i64 i4)], [(3, ⟨2, [cImage.row 0 m]⟩)], 4, 28, []⟩) rfl ?_
    replace hF : s_StackDepths_L1b m code (itr (s_StackDepths_L1 m code) lk_) i4 = some q := hF
    unfold s_StackDepths_L1b at hF
    generalize itr (s_StackDepths_L1 m code) lk_ = go5 at hF ⊢
    refine at_seq ?_
    refine at_seq ?_
    refine at_region ?_
    refine sxk 3 tabOK rfl ?_
    refine aops_nil ?_
    refine ct_if hF rfl (fun hc hF => ?_) (fun hc hF => ?_)
    · refine at_skip ?_
      refine at_seq ?_
      refine at_block ?_
      refine at_seq ?_
      refine at_region ?_
      refine sxk 2 tabOK rfl ?_
      obtain ⟨x6, hx6, hF⟩ := bnd_some hF
      refine call_eq (s_l10Code_ok m i4 x6 hx6) rfl ((rlL_cons (cImage.rl_agg (l := 0) (l' := 0) _ m rfl) (rlL_cons (rfl) rlL_nil))) rfl rfl ?_
      refine sxk 1 tabOK rfl ?_
      refine aops_nil ?_
      refine ct_bn hF rfl (fun hc hF => ?_) (fun hc hF => ?_)
      · refine at_seq ?_
        refine at_keep [] rfl ?_
        refine at_region ?_
        refine sxk 2 tabOK rfl ?_
        refine aops_nil ?_
        refine at_ret ?_
        refine bk_r ?_
        refine tk_r ?_
        refine ll_r ?_
        refine bk_r ?_
        refine tk_r ?_
        obtain rfl := Option.some.inj hF
        refine ret_le rfl ?_
        exact (vle_tup (.cons (vle_nil _ _) (.cons (vle_refl _) .nil)))
      · refine at_skip ?_
        refine bk_n ?_
        refine at_keep [1, 2, 6] rfl ?_
        refine at_region ?_
        refine sxk 1 tabOK rfl ?_
        obtain ⟨hb, hF⟩ := chk_some hF
        refine s_add tabOK rfl rfl rfl hb rfl ?_
        refine sxk 1 tabOK rfl ?_
        refine aops_nil ?_
        exact arr_loop ⟨(i4 + 1), hF, (le_down (down_all (ee_cons rfl rfl rfl (ee_cons rfl rfl (Nat.le_of_ble_eq_true rfl) (ee_cons rfl rfl rfl ee_nil))) (he_cons rfl rfl rfl (row_one (cImage.row_ok _ rfl)) he_nil) rfl rfl rfl rfl))⟩
    · refine at_exit ?_
      refine tk_x ?_
      refine ll_x ?_
      refine bk_hit ?_
      refine at_seq ?_
      refine at_region ?_
      refine sxk 2 tabOK rfl ?_
      obtain ⟨x6, hx6, hF⟩ := bnd_some hF
      refine call_eq (s_l10Depths_ok m code x6 hx6) rfl ((rlL_cons (cImage.rl_agg (l := 0) (l' := 0) _ m rfl) (rlL_cons (rfl) rlL_nil))) (rl_tupL (rlL_cons (cInt.rl_psl (l := 1) (l' := 1) _ x6.1 rfl) (rlL_cons (rfl) rlL_nil))) rfl ?_
      refine sxk 4 tabOK rfl ?_
      refine aops_nil ?_
      refine at_ret ?_
      obtain rfl := Option.some.inj hF
      refine ret_le rfl ?_
      exact (vle_tup (.cons (vle_refl _) (.cons (vle_refl _) .nil)))

theorem s_l10Tree_ok (m : PImage) (q : Bool) (hF : s_l10Tree m = some q) : FC Try.prog 83 [.agg (cImage.row 0 m)] [] 3 (fun x _ => x = .bool q) := by
  refine FC.of_le ?_
  refine fc_body tabOK Try.func83 rfl Try.ntmps83 rfl rfl rfl ?_
  unfold s_l10Tree at hF
  refine at_seq ?_
  refine at_region ?_
  refine sxk 2 tabOK rfl ?_
  refine aops_nil ?_
  refine at_seq ?_
  refine at_region ?_
  refine sxk 2 tabOK rfl ?_
  refine sv rfl (oc_len cCode tabOK rfl rfl rfl) rfl ?_
  obtain ⟨hb, hF⟩ := chk_some hF
  refine sc_make cInt (l := 0) (v := (0 : Int)) hb tabOK rfl rfl rfl rfl (vleL_refl _) rfl rfl rfl ?_
  refine sxk 1 tabOK rfl ?_
  refine aops_nil ?_
  refine at_seq ?_
  refine at_seq ?_
  refine at_region ?_
  refine sxk 2 tabOK rfl ?_
  refine sv rfl (oc_len cCode tabOK rfl rfl rfl) rfl ?_
  refine sxk 1 tabOK rfl ?_
  refine aops_nil ?_
  refine at_block ?_
  refine cl_loop (σ := Int × List Int) (fun v => match v with | (x2, times3) => ⟨[(1, .ptr 3 1 0 0), (3, .hsl 4 0 times3.length), (15, .psl 0 4 (m.codes.map (cCode.enc 0))), (16, .int .i64 (m.codes.length : Int)), (17, .int .i64 x2)], [(3, ⟨2, [cImage.row 0 m]⟩), (4, ⟨1, times3.map (cInt.enc 0)⟩)], 5, 56, []⟩) (s_l10Tree_L1 m) LF (0, (List.replicate (m.codes.length : Int).toNat (0 : Int))) hF (le_down (down_all (ee_cons rfl rfl (Nat.le_of_ble_eq_true rfl) (ee_cons rfl rfl (Nat.le_of_ble_eq_true rfl) (ee_cons rfl rfl (cCode.ok_psl _ rfl) (ee_cons rfl rfl rfl (ee_cons rfl rfl rfl ee_nil))))) (he_cons rfl rfl rfl (row_one (cImage.row_ok _ rfl)) (he_cons rfl rfl rfl (cInt.rows_ok _ rfl) he_nil)) rfl rfl rfl rfl)) ?_
  rintro lk_ ⟨x2, times3⟩ hF
  refine at_eq (s' := ⟨[(1, .ptr 3 1 0 0), (3, .hsl 4 0 times3.length), (15, .psl 0 4 (m.codes.map (cCode.enc 0))), (16, .int .i64 (m.codes.length : Int)), (17, .int .i64 x2)], [(3, ⟨2, [cImage.row 0 m]⟩), (4, ⟨1, times3.map (cInt.enc 0)⟩)], 5, 56, []⟩) rfl ?_
  replace hF : s_l10Tree_L1b m (itr (s_l10Tree_L1 m) lk_) x2 times3 = some q := hF
  unfold s_l10Tree_L1b at hF
  generalize itr (s_l10Tree_L1 m) lk_ = go4 at hF ⊢
  refine at_seq ?_
  refine at_region ?_
  refine sxk 1 tabOK rfl ?_
  refine aops_nil ?_
  refine at_seq ?_
  refine ct_if hF rfl (fun hc hF => ?_) (fun hc hF => ?_)
  · refine at_skip ?_
    refine at_seq ?_
    refine at_block ?_
    refine at_seq ?_
    refine at_region ?_
    obtain ⟨x5, hn_x5, hF⟩ := bnd_some hF
    refine sv rfl (oc_addr cCode hn_x5 tabOK rfl rfl rfl rfl) rfl ?_
    refine sxk 3 tabOK rfl ?_
    refine aops_nil ?_
    refine at_seq ?_
    refine at_region ?_
    refine sxk 2 tabOK rfl ?_
    refine sv rfl (oc_len cInstr tabOK rfl rfl rfl) rfl ?_
    refine sxk 1 tabOK rfl ?_
    refine aops_nil ?_
    refine at_block ?_
    refine cl_loop (σ := Int × List Int) (fun v => match v with | (x6, times7) => ⟨[(1, .ptr 3 1 0 0), (3, .hsl 4 0 times7.length), (15, .psl 0 4 (m.codes.map (cCode.enc 0))), (16, .int .i64 (m.codes.length : Int)), (17, .int .i64 x2), (22, .psl 0 6 (x5.instrs.map (cInstr.enc 0))), (23, .int .i64 (x5.instrs.length : Int)), (24, .int .i64 x6)], [(3, ⟨2, [cImage.row 0 m]⟩), (4, ⟨1, times7.map (cInt.enc 0)⟩)], 6, 56, []⟩) (s_l10Tree_L2 x2 go4 x5) LF (0, times3) hF (le_down (down_all (ee_cons rfl rfl (Nat.le_of_ble_eq_true rfl) (ee_cons rfl rfl (Nat.le_of_ble_eq_true rfl) (ee_cons rfl rfl (cCode.ok_psl _ rfl) (ee_cons rfl rfl rfl (ee_cons rfl rfl rfl (ee_cons rfl rfl (cInstr.ok_psl _ rfl) (ee_cons rfl rfl rfl (ee_cons rfl rfl rfl ee_nil)))))))) (he_cons rfl rfl rfl (row_one (cImage.row_ok _ rfl)) (he_cons rfl rfl rfl (cInt.rows_ok _ rfl) he_nil)) rfl rfl rfl rfl)) ?_
    rintro lk_ ⟨x6, times7⟩ hF
    refine at_eq (s' := ⟨[(1, .ptr 3 1 0 0), (3, .hsl 4 0 times7.length), (15, .psl 0 4 (m.codes.map (cCode.enc 0))), (16, .int .i64 (m.codes.length : Int)), (17, .int .i64 x2), (22, .psl 0 6 (x5.instrs.map (cInstr.enc 0))), (23, .int .i64 (x5.instrs.length : Int)), (24, .int .i64 x6)], [(3, ⟨2, [cImage.row 0 m]⟩), (4, ⟨1, times7.map (cInt.enc 0)⟩)], 6, 56, []⟩) rfl ?_
    replace hF : s_l10Tree_L2b x2 go4 x5 (itr (s_l10Tree_L2 x2 go4 x5) lk_) x6 times7 = some q := hF
    unfold s_l10Tree_L2b at hF
    generalize itr (s_l10Tree_L2 x2 go4 x5) lk_ = go8 at hF ⊢
    refine at_seq ?_
    refine at_region ?_
    refine sxk 1 tabOK rfl ?_
    refine aops_nil ?_
    refine at_seq ?_
    refine ct_if hF rfl (fun hc hF => ?_) (fun hc hF => ?_)
    · refine at_skip ?_
      refine at_seq ?_
      refine cl_midn (σ := List Int) (fun times9 => ⟨[(1, .ptr 3 1 0 0), (3, .hsl 4 0 times9.length), (15, .psl 0 4 (m.codes.map (cCode.enc 0))), (16, .int .i64 (m.codes.length : Int)), (17, .int .i64 x2), (22, .psl 0 6 (x5.instrs.map (cInstr.enc 0))), (23, .int .i64 (x5.instrs.length : Int)), (24, .int .i64 x6)], [(3, ⟨2, [cImage.row 0 m]⟩), (4, ⟨1, times9.map (cInt.enc 0)⟩)], 5, 56, []⟩) (fun times9 => s_l10Tree_J3 x6 go8 times9 = some q) ?_ ?_
      · refine at_block ?_
        refine at_seq ?_
        refine at_region ?_
        obtain ⟨x9, hn_x9, hF⟩ := bnd_some hF
        refine sv rfl (oc_addr cInstr hn_x9 tabOK rfl rfl rfl rfl) rfl ?_
        refine sxk 3 tabOK rfl ?_
        refine aops_nil ?_
        refine at_seq ?_
        refine at_region ?_
        refine sxk 2 tabOK rfl ?_
        obtain ⟨x10, hx10, hF⟩ := bnd_some hF
        refine call_eq (s_l10Inside_ok x9.op x10 hx10) rfl ((rlL_cons (rfl) rlL_nil)) rfl rfl ?_
        refine aops_nil ?_
        refine ct_b hF rfl (fun hc hF => ?_) (fun hc hF => ?_)
        · refine at_region ?_
          refine sxk 3 tabOK rfl ?_
          obtain ⟨x11, hn_x11, hF⟩ := bnd_some hF
          refine sv rfl (oc_haddr cInt hn_x11 tabOK rfl rfl rfl rfl) rfl ?_
          refine sv rfl (oc_load cInt hn_x11 tabOK rfl rfl rfl rfl) rfl ?_
          obtain ⟨hb, hF⟩ := chk_some hF
          refine s_add tabOK rfl rfl rfl hb rfl ?_
          obtain ⟨x12, hn_x12, hF⟩ := bnd_some hF
          refine sv rfl (oc_haddr cInt hn_x12 tabOK rfl rfl rfl rfl) rfl ?_
          refine sc_store cInt (v' := (x11 + 1)) hn_x12 tabOK rfl rfl rfl rfl rfl rfl rfl rfl ?_
          refine ops_le (le_slot (y := .hsl 4 0 (times7.set x9.a.toNat (x11 + 1)).length) 3 rfl (vle_eq (congrArg (V.hsl 4 0) (by simp))) rfl) ?_
          refine aops_nil ?_
          refine bk_n ?_
          exact arr_cut ⟨(times7.set x9.a.toNat (x11 + 1)), hF, (le_down (down_all (ee_cons rfl rfl (Nat.le_of_ble_eq_true rfl) (ee_cons rfl rfl (Nat.le_of_ble_eq_true rfl) (ee_cons rfl rfl (cCode.ok_psl _ rfl) (ee_cons rfl rfl rfl (ee_cons rfl rfl rfl (ee_cons rfl rfl (cInstr.ok_psl _ rfl) (ee_cons rfl rfl rfl (ee_cons rfl rfl rfl ee_nil)))))))) (he_cons rfl rfl rfl (row_one (cImage.row_ok _ rfl)) (he_cons rfl rfl rfl (cInt.rows_ok _ rfl) he_nil)) rfl rfl rfl rfl))⟩
        · refine at_skip ?_
          refine bk_n ?_
          exact arr_cut ⟨times7, hF, (le_down (down_all (ee_cons rfl rfl (Nat.le_of_ble_eq_true rfl) (ee_cons rfl rfl (Nat.le_of_ble_eq_true rfl) (ee_cons rfl rfl (cCode.ok_psl _ rfl) (ee_cons rfl rfl rfl (ee_cons rfl rfl rfl (ee_cons rfl rfl (cInstr.ok_psl _ rfl) (ee_cons rfl rfl rfl (ee_cons rfl rfl rfl ee_nil)))))))) (he_cons rfl rfl rfl (row_one (cImage.row_ok _ rfl)) (he_cons rfl rfl rfl (cInt.rows_ok _ rfl) he_nil)) rfl rfl rfl rfl))⟩
      · rintro times9 hF
        refine at_eq (s' := ⟨[(1, .ptr 3 1 0 0), (3, .hsl 4 0 times9.length), (15, .psl 0 4 (m.codes.map (cCode.enc 0))), (16, .int .i64 (m.codes.length : Int)), (17, .int .i64 x2), (22, .psl 0 6 (x5.instrs.map (cInstr.enc 0))), (23, .int .i64 (x5.instrs.length : Int)), (24, .int .i64 x6)], [(3, ⟨2, [cImage.row 0 m]⟩), (4, ⟨1, times9.map (cInt.enc 0)⟩)], 5, 56, []⟩) rfl ?_
        replace hF : s_l10Tree_J3 x6 go8 times9 = some q := hF
        unfold s_l10Tree_J3 at hF
        refine at_region ?_
        obtain ⟨hb, hF⟩ := chk_some hF
        refine s_add tabOK rfl rfl rfl hb rfl ?_
        refine sxk 1 tabOK rfl ?_
        refine aops_nil ?_
        exact arr_loop ⟨((x6 + 1), times9), hF, ((le_bump 6 rfl rfl).trans (le_down (down_all (ee_cons rfl rfl (Nat.le_of_ble_eq_true rfl) (ee_cons rfl rfl (Nat.le_of_ble_eq_true rfl) (ee_cons rfl rfl (cCode.ok_psl _ rfl) (ee_cons rfl rfl rfl (ee_cons rfl rfl rfl (ee_cons rfl rfl (cInstr.ok_psl _ rfl) (ee_cons rfl rfl rfl (ee_cons rfl rfl rfl ee_nil)))))))) (he_cons rfl rfl rfl (row_one (cImage.row_ok _ rfl)) (he_cons rfl rfl rfl (cInt.rows_ok _ rfl) he_nil)) rfl rfl rfl rfl)))⟩
    · refine at_exit ?_
      refine tk_x ?_
      refine ll_x ?_
      refine bk_hit ?_
      refine bk_n ?_
      refine at_region ?_
      obtain ⟨hb, hF⟩ := chk_some hF
      refine s_add tabOK rfl rfl rfl hb rfl ?_
      refine sxk 1 tabOK rfl ?_
      refine aops_nil ?_
      exact arr_loop ⟨((x2 + 1), times7), hF, (le_down (down_all (ee_cons rfl rfl (Nat.le_of_ble_eq_true rfl) (ee_cons rfl rfl (Nat.le_of_ble_eq_true rfl) (ee_cons rfl rfl (cCode.ok_psl _ rfl) (ee_cons rfl rfl rfl (ee_cons rfl rfl rfl ee_nil))))) (he_cons rfl rfl rfl (row_one (cImage.row_ok _ rfl)) (he_cons rfl rfl rfl (cInt.rows_ok _ rfl) he_nil)) rfl rfl rfl rfl))⟩
  · refine at_exit ?_
    refine tk_x ?_
    refine ll_x ?_
    refine bk_hit ?_
    refine at_seq ?_
    refine at_seq ?_
    refine at_region ?_
    refine sxk 1 tabOK rfl ?_
    refine sv rfl (oc_hlen cInt tabOK rfl rfl rfl) rfl ?_
    refine sxk 1 tabOK rfl ?_
    refine aops_nil ?_
    refine at_block ?_
    refine cl_loop (σ := Int) (fun x5 => ⟨[(1, .ptr 3 1 0 0), (40, .hsl 4 0 times3.length), (41, .int .i64 (times3.length : Int)), (42, .int .i64 x5)], [(3, ⟨2, [cImage.row 0 m]⟩), (4, ⟨1, times3.map (cInt.enc 0)⟩)], 5, 56, []⟩) (s_l10Tree_L4 m times3) LF 0 hF (le_down (down_all (ee_cons rfl rfl (Nat.le_of_ble_eq_true rfl) (ee_cons rfl rfl (Nat.le_of_ble_eq_true rfl) (ee_cons rfl rfl rfl (ee_cons rfl rfl rfl ee_nil)))) (he_cons rfl rfl rfl (row_one (cImage.row_ok _ rfl)) (he_cons rfl rfl rfl (cInt.rows_ok _ rfl) he_nil)) rfl rfl rfl rfl)) ?_
    rintro lk_ x5 hF
    refine at_eq (s' := ⟨[(1, .ptr 3 1 0 0), (40, .hsl 4 0 times3.length), (41, .int .i64 (times3.length : Int)), (42, .int .i64 x5)], [(3, ⟨2, [cImage.row 0 m]⟩), (4, ⟨1, times3.map (cInt.enc 0)⟩)], 5, 56, []⟩) rfl ?_
    replace hF : s_l10Tree_L4b m times3 (itr (s_l10Tree_L4 m times3) lk_) x5 = some q := hF
    unfold s_l10Tree_L4b at hF
    generalize itr (s_l10Tree_L4 m times3) lk_ = go6 at hF ⊢
    refine at_seq ?_
    refine at_region ?_
    refine sxk 1 tabOK rfl ?_
    refine aops_nil ?_
    refine at_seq ?_
    refine ct_if hF rfl (fun hc hF => ?_) (fun hc hF => ?_)
    · refine at_skip ?_
      refine at_seq ?_
      refine at_block ?_
      refine at_seq ?_
      refine at_region ?_
      refine sxk 1 tabOK rfl ?_
      obtain ⟨x7, hn_x7, hF⟩ := bnd_some hF
      refine sv rfl (oc_haddr cInt hn_x7 tabOK rfl rfl rfl rfl) rfl ?_
      refine sv rfl (oc_load cInt hn_x7 tabOK rfl rfl rfl rfl) rfl ?_
      refine sxk 2 tabOK rfl ?_
      refine aops_nil ?_
      refine at_seq ?_
      refine cl_midn (σ := Bool) (fun x8 => ⟨[(1, .ptr 3 1 0 0), (40, .hsl 4 0 times3.length), (41, .int .i64 (times3.length : Int)), (42, .int .i64 x5), (54, .bool x8)], [(3, ⟨2, [cImage.row 0 m]⟩), (4, ⟨1, times3.map (cInt.enc 0)⟩)], 5, 56, []⟩) (fun x8 => s_l10Tree_J5 x5 go6 x8 = some q) ?_ ?_
      · refine at_region ?_
        refine sxk 3 tabOK rfl ?_
        refine ops_ifn (g := 49) hF rfl (fun hc hF => ?_) (fun hc hF => ?_)
        · refine sxk 5 tabOK rfl ?_
          refine aops_nil ?_
          exact arr_cut ⟨(!decide (x5 = m.main)), hF, (le_down (down_all (ee_cons rfl rfl (Nat.le_of_ble_eq_true rfl) (ee_cons rfl rfl (Nat.le_of_ble_eq_true rfl) (ee_cons rfl rfl rfl (ee_cons rfl rfl rfl (ee_cons rfl rfl rfl ee_nil))))) (he_cons rfl rfl rfl (row_one (cImage.row_ok _ rfl)) (he_cons rfl rfl rfl (cInt.rows_ok _ rfl) he_nil)) rfl rfl rfl rfl))⟩
        · refine sxk 5 tabOK rfl ?_
          refine aops_nil ?_
          exact arr_cut ⟨false, hF, (le_down (down_all (ee_cons rfl rfl (Nat.le_of_ble_eq_true rfl) (ee_cons rfl rfl (Nat.le_of_ble_eq_true rfl) (ee_cons rfl rfl rfl (ee_cons rfl rfl rfl (ee_cons rfl rfl rfl ee_nil))))) (he_cons rfl rfl rfl (row_one (cImage.row_ok _ rfl)) (he_cons rfl rfl rfl (cInt.rows_ok _ rfl) he_nil)) rfl rfl rfl rfl))⟩
      · rintro x8 hF
        refine at_eq (s' := ⟨[(1, .ptr 3 1 0 0), (40, .hsl 4 0 times3.length), (41, .int .i64 (times3.length : Int)), (42, .int .i64 x5), (54, .bool x8)], [(3, ⟨2, [cImage.row 0 m]⟩), (4, ⟨1, times3.map (cInt.enc 0)⟩)], 5, 56, []⟩) rfl ?_
        replace hF : s_l10Tree_J5 x5 go6 x8 = some q := hF
        unfold s_l10Tree_J5 at hF
        refine ct_b hF rfl (fun hc hF => ?_) (fun hc hF => ?_)
        · refine at_seq ?_
          refine at_region ?_
          refine sxk 1 tabOK rfl ?_
          refine aops_nil ?_
          refine at_ret ?_
          refine bk_r ?_
          refine tk_r ?_
          refine ll_r ?_
          refine bk_r ?_
          refine tk_r ?_
          obtain rfl := Option.some.inj hF
          refine ret_le rfl ?_
          exact (vle_refl _)
        · refine at_skip ?_
          refine bk_n ?_
          refine at_region ?_
          obtain ⟨hb, hF⟩ := chk_some hF
          refine s_add tabOK rfl rfl rfl hb rfl ?_
          refine sxk 1 tabOK rfl ?_
          refine aops_nil ?_
          exact arr_loop ⟨(x5 + 1), hF, (le_down (down_all (ee_cons rfl rfl (Nat.le_of_ble_eq_true rfl) (ee_cons rfl rfl (Nat.le_of_ble_eq_true rfl) (ee_cons rfl rfl rfl (ee_cons rfl rfl rfl ee_nil)))) (he_cons rfl rfl rfl (row_one (cImage.row_ok _ rfl)) (he_cons rfl rfl rfl (cInt.rows_ok _ rfl) he_nil)) rfl rfl rfl rfl))⟩
    · refine at_exit ?_
      refine tk_x ?_
      refine ll_x ?_
      refine bk_hit ?_
      refine at_seq ?_
      refine at_region ?_
      refine sxk 1 tabOK rfl ?_
      refine aops_nil ?_
      refine at_ret ?_
      obtain rfl := Option.some.inj hF
      refine ret_le rfl ?_
      exact (vle_refl _)

theorem s_IsImage_ok (m : PImage) (captures : Int) (q : Bool) (hF : s_IsImage m captures = some q) : FC Try.prog 41 [.agg (cImage.row 0 m), .int .i64 captures] [] 3 (fun x _ => x = .bool q) := by
  refine FC.of_le ?_
  refine fc_body tabOK Try.func41 rfl Try.ntmps41 rfl rfl rfl ?_
  unfold s_IsImage at hF
  refine at_seq ?_
  refine at_region ?_
  refine sxk 2 tabOK rfl ?_
  refine aops_nil ?_
  refine at_seq ?_
  refine at_seq ?_
  refine at_region ?_
  refine sxk 2 tabOK rfl ?_
  refine sv rfl (oc_len cCode tabOK rfl rfl rfl) rfl ?_
  obtain ⟨x3, hx3, hF⟩ := bnd_some hF
  refine call_eq (s_l1In_ok (m.codes.length : Int) 1 1500 x3 hx3) rfl ((rlL_cons (rfl) (rlL_cons (rfl) (rlL_cons (rfl) rlL_nil)))) rfl rfl ?_
  refine sxk 2 tabOK rfl ?_
  refine ops_ifnb (g := 14) hF rfl (fun hc hF => ?_) (fun hc hF => ?_)
  · refine sxk 29 tabOK rfl ?_
    refine aops_nil ?_
    refine at_true rfl ?_
    refine at_seq ?_
    refine at_keep [] rfl ?_
    refine at_region ?_
    refine sxk 1 tabOK rfl ?_
    refine aops_nil ?_
    refine at_ret ?_
    refine tk_r ?_
    obtain rfl := Option.some.inj hF
    refine ret_le rfl ?_
    exact (vle_refl _)
  · refine sxk 4 tabOK rfl ?_
    refine sv rfl (oc_len cCode tabOK rfl rfl rfl) rfl ?_
    obtain ⟨hb, hF⟩ := chk_some hF
    refine s_sub tabOK rfl rfl rfl hb rfl ?_
    refine sxk 3 tabOK rfl ?_
    refine ops_ifn (g := 23) hF rfl (fun hc hF => ?_) (fun hc hF => ?_)
    · refine sxk 20 tabOK rfl ?_
      refine aops_nil ?_
      refine at_true rfl ?_
      refine at_seq ?_
      refine at_keep [] rfl ?_
      refine at_region ?_
      refine sxk 1 tabOK rfl ?_
      refine aops_nil ?_
      refine at_ret ?_
      refine tk_r ?_
      obtain rfl := Option.some.inj hF
      refine ret_le rfl ?_
      exact (vle_refl _)
    · refine sxk 4 tabOK rfl ?_
      obtain ⟨x4, hn_x4, hF⟩ := bnd_some hF
      refine sv rfl (oc_addr cCode hn_x4 tabOK rfl rfl rfl rfl) rfl ?_
      refine sxk 5 tabOK rfl ?_
      refine ops_ifn (g := 33) hF rfl (fun hc hF => ?_) (fun hc hF => ?_)
      · refine sxk 10 tabOK rfl ?_
        refine aops_nil ?_
        refine at_true rfl ?_
        refine at_seq ?_
        refine at_keep [] rfl ?_
        refine at_region ?_
        refine sxk 1 tabOK rfl ?_
        refine aops_nil ?_
        refine at_ret ?_
        refine tk_r ?_
        obtain rfl := Option.some.inj hF
        refine ret_le rfl ?_
        exact (vle_refl _)
      · refine sxk 4 tabOK rfl ?_
        obtain ⟨x5, hn_x5, hF⟩ := bnd_some hF
        refine sv rfl (oc_addr cCode hn_x5 tabOK rfl rfl rfl rfl) rfl ?_
        refine sxk 5 tabOK rfl ?_
        refine aops_nil ?_
        refine ct_ifn hF rfl (fun hc hF => ?_) (fun hc hF => ?_)
        · refine at_seq ?_
          refine at_keep [] rfl ?_
          refine at_region ?_
          refine sxk 1 tabOK rfl ?_
          refine aops_nil ?_
          refine at_ret ?_
          refine tk_r ?_
          obtain rfl := Option.some.inj hF
          refine ret_le rfl ?_
          exact (vle_refl _)
        · refine at_skip ?_
          refine at_seq ?_
          refine at_keep [2] rfl ?_
          refine at_region ?_
          refine sxk 1 tabOK rfl ?_
          refine aops_nil ?_
          refine at_seq ?_
          refine at_seq ?_
          refine at_region ?_
          refine sxk 2 tabOK rfl ?_
          refine sv rfl (oc_len cCode tabOK rfl rfl rfl) rfl ?_
          refine sxk 1 tabOK rfl ?_
          refine aops_nil ?_
          refine at_block ?_
          refine cl_loop (σ := Int × Int) (fun v => match v with | (x6, x7) => ⟨[(2, .ptr 3 1 0 0), (5, .int .i64 x6), (46, .int .i64 (m.codes.length : Int)), (47, .int .i64 x7)], [(3, ⟨2, [cImage.row 0 m]⟩)], 4, 78, []⟩) (s_IsImage_L1 m) LF (0, 0) hF (le_down (down_all (ee_cons rfl rfl (Nat.le_of_ble_eq_true rfl) (ee_cons rfl rfl rfl (ee_cons rfl rfl rfl (ee_cons rfl rfl rfl ee_nil)))) (he_cons rfl rfl rfl (row_one (cImage.row_ok _ rfl)) he_nil) rfl rfl rfl rfl)) ?_
          rintro lk_ ⟨x6, x7⟩ hF
          refine at_eq (s' := ⟨[(2, .ptr 3 1 0 0), (5, .int .i64 x6), (46, .int .i64 (m.codes.length : Int)), (47, .int .i64 x7)], [(3, ⟨2, [cImage.row 0 m]⟩)], 4, 78, []⟩) rfl ?_
          replace hF : s_IsImage_L1b m (itr (s_IsImage_L1 m) lk_) x6 x7 = some q := hF
          unfold s_IsImage_L1b at hF
          generalize itr (s_IsImage_L1 m) lk_ = go8 at hF ⊢
          refine at_seq ?_
          refine at_region ?_
          refine sxk 1 tabOK rfl ?_
          refine aops_nil ?_
          refine at_seq ?_
          refine ct_if hF rfl (fun hc hF => ?_) (fun hc hF => ?_)
          · refine at_skip ?_
            refine at_seq ?_
            refine at_block ?_
            refine at_seq ?_
            refine at_region ?_
            refine sxk 2 tabOK rfl ?_
            refine aops_nil ?_
            refine at_seq ?_
            refine at_seq ?_
            refine at_region ?_
            refine sxk 2 tabOK rfl ?_
            obtain ⟨x9, hx9, hF⟩ := bnd_some hF
            refine call_eq (s_l10Code_ok m x7 x9 hx9) rfl ((rlL_cons (cImage.rl_agg (l := 0) (l' := 0) _ m rfl) (rlL_cons (rfl) rlL_nil))) rfl rfl ?_
            refine sxk 1 tabOK rfl ?_
            refine aops_nil ?_
            refine ct_bn hF rfl (fun hc hF => ?_) (fun hc hF => ?_)
            · refine at_seq ?_
              refine at_keep [] rfl ?_
              refine at_region ?_
              refine sxk 1 tabOK rfl ?_
              refine aops_nil ?_
              refine at_ret ?_
              refine tk_r ?_
              refine bk_r ?_
              refine tk_r ?_
              refine ll_r ?_
              refine bk_r ?_
              refine tk_r ?_
              obtain rfl := Option.some.inj hF
              refine ret_le rfl ?_
              exact (vle_refl _)
            · refine at_skip ?_
              refine at_seq ?_
              refine at_seq ?_
              refine at_region ?_
              refine sxk 2 tabOK rfl ?_
              obtain ⟨x10, hx10, hF⟩ := bnd_some hF
              refine call_eq (s_l10Depths_ok m x7 x10 hx10) rfl ((rlL_cons (cImage.rl_agg (l := 0) (l' := 0) _ m rfl) (rlL_cons (rfl) rlL_nil))) (rl_tupL (rlL_cons (cInt.rl_psl (l := 1) (l' := 1) _ x10.1 rfl) (rlL_cons (rfl) rlL_nil))) rfl ?_
              refine sxk 5 tabOK rfl ?_
              refine aops_nil ?_
              refine at_seq ?_
              refine at_keep [2, 5, 6, 8, 46, 47] rfl ?_
              refine at_region ?_
              refine sxk 2 tabOK rfl ?_
              refine aops_nil ?_
              refine ct_bn hF rfl (fun hc hF => ?_) (fun hc hF => ?_)
              · refine at_seq ?_
                refine at_keep [] rfl ?_
                refine at_region ?_
                refine sxk 1 tabOK rfl ?_
                refine aops_nil ?_
                refine at_ret ?_
                refine tk_r ?_
                refine bk_r ?_
                refine tk_r ?_
                refine ll_r ?_
                refine bk_r ?_
                refine tk_r ?_
                obtain rfl := Option.some.inj hF
                refine ret_le rfl ?_
                exact (vle_refl _)
              · refine at_skip ?_
                refine at_region ?_
                refine sxk 4 tabOK rfl ?_
                obtain ⟨x11, hn_x11, hF⟩ := bnd_some hF
                refine sv rfl (oc_addr cCode hn_x11 tabOK rfl rfl rfl rfl) rfl ?_
                refine sxk 2 tabOK rfl ?_
                refine sv rfl (oc_len cInstr tabOK rfl rfl rfl) rfl ?_
                obtain ⟨hb, hF⟩ := chk_some hF
                refine s_add tabOK rfl rfl rfl hb rfl ?_
                refine sxk 1 tabOK rfl ?_
                refine aops_nil ?_
                refine bk_n ?_
                refine at_keep [2, 5, 46, 47] rfl ?_
                refine at_region ?_
                obtain ⟨hb, hF⟩ := chk_some hF
                refine s_add tabOK rfl rfl rfl hb rfl ?_
                refine sxk 1 tabOK rfl ?_
                refine aops_nil ?_
                exact arr_loop ⟨((x6 + (x11.instrs.length : Int)), (x7 + 1)), hF, (le_down (down_all (ee_cons rfl rfl (Nat.le_of_ble_eq_true rfl) (ee_cons rfl rfl rfl (ee_cons rfl rfl rfl (ee_cons rfl rfl rfl ee_nil)))) (he_cons rfl rfl rfl (row_one (cImage.row_ok _ rfl)) he_nil) rfl rfl rfl rfl))⟩
          · refine at_exit ?_
            refine tk_x ?_
            refine ll_x ?_
            refine bk_hit ?_
            refine at_seq ?_
            refine at_region ?_
            refine sxk 3 tabOK rfl ?_
            refine ops_if (g := 74) hF rfl (fun hc hF => ?_) (fun hc hF => ?_)
            · refine sxk 1 tabOK rfl ?_
              obtain ⟨x9, hx9, hF⟩ := bnd_some hF
              refine call_eq (s_l10Tree_ok m x9 hx9) rfl ((rlL_cons (cImage.rl_agg (l := 0) (l' := 0) _ m rfl) rlL_nil)) rfl rfl ?_
              refine sxk 2 tabOK rfl ?_
              refine aops_nil ?_
              refine at_ret ?_
              obtain rfl := Option.some.inj hF
              refine ret_le rfl ?_
              exact (vle_refl _)
            · refine sxk 4 tabOK rfl ?_
              refine aops_nil ?_
              refine at_ret ?_
              obtain rfl := Option.some.inj hF
              refine ret_le rfl ?_
              exact (vle_refl _)

theorem s_EqualImages_ok (a : PImage) (b : PImage) (q : Bool) (hF : s_EqualImages a b = some q) : FC Try.prog 24 [.agg (cImage.row 0 a), .agg (cImage.row 0 b)] [] 3 (fun x _ => x = .bool q) := by
  refine FC.of_le ?_
  refine fc_body tabOK Try.func24 rfl Try.ntmps24 rfl rfl rfl ?_
  unfold s_EqualImages at hF
  refine at_seq ?_
  refine at_region ?_
  refine sxk 3 tabOK rfl ?_
  refine aops_nil ?_
  refine at_seq ?_
  refine at_seq ?_
  refine at_region ?_
  refine sxk 2 tabOK rfl ?_
  refine sv rfl (oc_len cCode tabOK rfl rfl rfl) rfl ?_
  refine sxk 2 tabOK rfl ?_
  refine sv rfl (oc_len cCode tabOK rfl rfl rfl) rfl ?_
  refine sxk 2 tabOK rfl ?_
  refine ops_ifn (g := 16) hF rfl (fun hc hF => ?_) (fun hc hF => ?_)
  · refine sxk 6 tabOK rfl ?_
    refine aops_nil ?_
    refine at_true rfl ?_
    refine at_seq ?_
    refine at_keep [] rfl ?_
    refine at_region ?_
    refine sxk 1 tabOK rfl ?_
    refine aops_nil ?_
    refine at_ret ?_
    refine tk_r ?_
    obtain rfl := Option.some.inj hF
    refine ret_le rfl ?_
    exact (vle_refl _)
  · refine sxk 6 tabOK rfl ?_
    refine aops_nil ?_
    refine ct_ifn hF rfl (fun hc hF => ?_) (fun hc hF => ?_)
    · refine at_seq ?_
      refine at_keep [] rfl ?_
      refine at_region ?_
      refine sxk 1 tabOK rfl ?_
      refine aops_nil ?_
      refine at_ret ?_
      refine tk_r ?_
      obtain rfl := Option.some.inj hF
      refine ret_le rfl ?_
      exact (vle_refl _)
    · refine at_skip ?_
      refine at_seq ?_
      refine at_seq ?_
      refine at_keep [2, 3] rfl ?_
      refine at_region ?_
      refine sxk 2 tabOK rfl ?_
      refine sv rfl (oc_len cCode tabOK rfl rfl rfl) rfl ?_
      refine sxk 1 tabOK rfl ?_
      refine aops_nil ?_
      refine at_block ?_
      refine cl_loop (σ := Int) (fun x3 => ⟨[(2, .ptr 3 1 0 0), (3, .ptr 4 1 0 0), (25, .int .i64 (a.codes.length : Int)), (26, .int .i64 x3)], [(3, ⟨2, [cImage.row 0 a]⟩), (4, ⟨2, [cImage.row 0 b]⟩)], 5, 119, []⟩) (s_EqualImages_L1 a b) LF 0 hF (le_down (down_all (ee_cons rfl rfl (Nat.le_of_ble_eq_true rfl) (ee_cons rfl rfl (Nat.le_of_ble_eq_true rfl) (ee_cons rfl rfl rfl (ee_cons rfl rfl rfl ee_nil)))) (he_cons rfl rfl rfl (row_one (cImage.row_ok _ rfl)) (he_cons rfl rfl rfl (row_one (cImage.row_ok _ rfl)) he_nil)) rfl rfl rfl rfl)) ?_
      rintro lk_ x3 hF
      refine at_eq (s' := ⟨[(2, .ptr 3 1 0 0), (3, .ptr 4 1 0 0), (25, .int .i64 (a.codes.length : Int)), (26, .int .i64 x3)], [(3, ⟨2, [cImage.row 0 a]⟩), (4, ⟨2, [cImage.row 0 b]⟩)], 5, 119, []⟩) rfl ?_
      replace hF : s_EqualImages_L1b a b (itr (s_EqualImages_L1 a b) lk_) x3 = some q := hF
      unfold s_EqualImages_L1b at hF
      generalize itr (s_EqualImages_L1 a b) lk_ = go4 at hF ⊢
      refine at_seq ?_
      refine at_region ?_
      refine sxk 1 tabOK rfl ?_
      refine aops_nil ?_
      refine at_seq ?_
      refine ct_if hF rfl (fun hc hF => ?_) (fun hc hF => ?_)
      · refine at_skip ?_
        refine at_seq ?_
        refine at_block ?_
        refine at_seq ?_
        refine at_region ?_
        refine sxk 2 tabOK rfl ?_
        refine aops_nil ?_
        refine at_seq ?_
        refine at_drawnM (id := 6) 13 (by kernel_rfl) (by kernel_rfl) ?_
        refine nx tabOK rfl ?_
        refine nx tabOK rfl ?_
        refine nx tabOK rfl ?_
        obtain ⟨x5, hn_x5, hF⟩ := bnd_some hF
        refine nv rfl (oc_addr cCode hn_x5 tabOK rfl rfl rfl rfl) rfl ?_
        refine nx tabOK rfl ?_
        refine nx tabOK rfl ?_
        refine nx tabOK rfl ?_
        refine nx tabOK rfl ?_
        obtain ⟨x6, hn_x6, hF⟩ := bnd_some hF
        refine nv rfl (oc_addr cCode hn_x6 tabOK rfl rfl rfl rfl) rfl ?_
        refine nx tabOK rfl ?_
        refine n_alloc tabOK rfl rfl rfl rfl rfl ?_
        refine n_alloc tabOK rfl rfl rfl rfl rfl ?_
        refine n_sto (cs := [.int .i64 x5.params, .int .i64 x5.slots, .int .i64 x5.captures, .psl 0 6 (x5.instrs.map (cInstr.enc 0))]) tabOK rfl rfl rfl rfl rfl rfl rfl ?_
        refine dn_nil rfl ?_
        refine sxk 1 tabOK rfl ?_
        refine aops_nil ?_
        refine at_seq ?_
        refine at_seq ?_
        refine at_keep [2, 3, 6, 7, 25, 26] rfl ?_
        refine at_region ?_
        refine sxk 6 tabOK rfl ?_
        refine ops_ifn (g := 44) hF rfl (fun hc hF => ?_) (fun hc hF => ?_)
        · refine sxk 22 tabOK rfl ?_
          refine aops_nil ?_
          refine at_true rfl ?_
          refine at_seq ?_
          refine at_keep [] rfl ?_
          refine at_region ?_
          refine sxk 1 tabOK rfl ?_
          refine aops_nil ?_
          refine at_ret ?_
          refine tk_r ?_
          refine bk_r ?_
          refine tk_r ?_
          refine ll_r ?_
          refine bk_r ?_
          refine tk_r ?_
          obtain rfl := Option.some.inj hF
          refine ret_le rfl ?_
          exact (vle_refl _)
        · refine sxk 7 tabOK rfl ?_
          refine ops_ifn (g := 51) hF rfl (fun hc hF => ?_) (fun hc hF => ?_)
          · refine sxk 15 tabOK rfl ?_
            refine aops_nil ?_
            refine at_true rfl ?_
            refine at_seq ?_
            refine at_keep [] rfl ?_
            refine at_region ?_
            refine sxk 1 tabOK rfl ?_
            refine aops_nil ?_
            refine at_ret ?_
            refine tk_r ?_
            refine bk_r ?_
            refine tk_r ?_
            refine ll_r ?_
            refine bk_r ?_
            refine tk_r ?_
            obtain rfl := Option.some.inj hF
            refine ret_le rfl ?_
            exact (vle_refl _)
          · refine sxk 7 tabOK rfl ?_
            refine ops_ifn (g := 58) hF rfl (fun hc hF => ?_) (fun hc hF => ?_)
            · refine sxk 8 tabOK rfl ?_
              refine aops_nil ?_
              refine at_true rfl ?_
              refine at_seq ?_
              refine at_keep [] rfl ?_
              refine at_region ?_
              refine sxk 1 tabOK rfl ?_
              refine aops_nil ?_
              refine at_ret ?_
              refine tk_r ?_
              refine bk_r ?_
              refine tk_r ?_
              refine ll_r ?_
              refine bk_r ?_
              refine tk_r ?_
              obtain rfl := Option.some.inj hF
              refine ret_le rfl ?_
              exact (vle_refl _)
            · refine sxk 2 tabOK rfl ?_
              refine sv rfl (oc_len cInstr tabOK rfl rfl rfl) rfl ?_
              refine sxk 2 tabOK rfl ?_
              refine sv rfl (oc_len cInstr tabOK rfl rfl rfl) rfl ?_
              refine sxk 2 tabOK rfl ?_
              refine aops_nil ?_
              refine ct_ifn hF rfl (fun hc hF => ?_) (fun hc hF => ?_)
              · refine at_seq ?_
                refine at_keep [] rfl ?_
                refine at_region ?_
                refine sxk 1 tabOK rfl ?_
                refine aops_nil ?_
                refine at_ret ?_
                refine tk_r ?_
                refine bk_r ?_
                refine tk_r ?_
                refine ll_r ?_
                refine bk_r ?_
                refine tk_r ?_
                obtain rfl := Option.some.inj hF
                refine ret_le rfl ?_
                exact (vle_refl _)
              · refine at_skip ?_
                refine at_seq ?_
                refine at_keep [2, 3, 6, 7, 25, 26, 45, 46, 47, 48, 49, 52, 53, 54, 55, 56, 59, 60, 61, 62, 63, 64, 65] rfl ?_
                refine at_region ?_
                refine sxk 2 tabOK rfl ?_
                refine sv rfl (oc_len cInstr tabOK rfl rfl rfl) rfl ?_
                refine sxk 1 tabOK rfl ?_
                refine aops_nil ?_
                refine at_block ?_
                refine cl_loop (σ := Int) (fun x7 => ⟨[(2, .ptr 3 1 0 0), (3, .ptr 4 1 0 0), (6, .ptr 5 1 0 0), (7, .ptr 6 1 0 0), (25, .int .i64 (a.codes.length : Int)), (26, .int .i64 x3), (45, .ptr 5 1 0 1), (46, .int .i64 x5.slots), (47, .ptr 6 1 0 1), (48, .int .i64 x6.slots), (49, .bool (!decide (x5.slots = x6.slots))), (52, .ptr 5 1 0 2), (53, .int .i64 x5.captures), (54, .ptr 6 1 0 2), (55, .int .i64 x6.captures), (56, .bool (!decide (x5.captures = x6.captures))), (59, .ptr 5 1 0 3), (60, .psl 0 6 (x5.instrs.map (cInstr.enc 0))), (61, .int .i64 (x5.instrs.length : Int)), (62, .ptr 6 1 0 3), (63, .psl 0 6 (x6.instrs.map (cInstr.enc 0))), (64, .int .i64 (x6.instrs.length : Int)), (65, .bool (!decide ((x5.instrs.length : Int) = (x6.instrs.length : Int)))), (69, .int .i64 (x5.instrs.length : Int)), (70, .int .i64 x7)], [(3, ⟨2, [cImage.row 0 a]⟩), (4, ⟨2, [cImage.row 0 b]⟩), (5, ⟨4, [cCode.row 0 x5]⟩), (6, ⟨4, [cCode.row 0 x6]⟩)], 7, 119, []⟩) (s_EqualImages_L2 a x3 go4 x5 x6) LF 0 hF (le_down (down_all (ee_cons rfl rfl (Nat.le_of_ble_eq_true rfl) (ee_cons rfl rfl (Nat.le_of_ble_eq_true rfl) (ee_cons rfl rfl (Nat.le_of_ble_eq_true rfl) (ee_cons rfl rfl (Nat.le_of_ble_eq_true rfl) (ee_cons rfl rfl rfl (ee_cons rfl rfl rfl (ee_cons rfl rfl (Nat.le_of_ble_eq_true rfl) (ee_cons rfl rfl rfl (ee_cons rfl rfl (Nat.le_of_ble_eq_true rfl) (ee_cons rfl rfl rfl (ee_cons rfl rfl rfl (ee_cons rfl rfl (Nat.le_of_ble_eq_true rfl) (ee_cons rfl rfl rfl (ee_cons rfl rfl (Nat.le_of_ble_eq_true rfl) (ee_cons rfl rfl rfl (ee_cons rfl rfl rfl (ee_cons rfl rfl (Nat.le_of_ble_eq_true rfl) (ee_cons rfl rfl (cInstr.ok_psl _ rfl) (ee_cons rfl rfl rfl (ee_cons rfl rfl (Nat.le_of_ble_eq_true rfl) (ee_cons rfl rfl (cInstr.ok_psl _ rfl) (ee_cons rfl rfl rfl (ee_cons rfl rfl rfl (ee_cons rfl rfl rfl (ee_cons rfl rfl rfl ee_nil))))))))))))))))))))))))) (he_cons rfl rfl rfl (row_one (cImage.row_ok _ rfl)) (he_cons rfl rfl rfl (row_one (cImage.row_ok _ rfl)) (he_cons rfl rfl rfl (row_one (cCode.row_ok _ rfl)) (he_cons rfl rfl rfl (row_one (cCode.row_ok _ rfl)) he_nil)))) rfl rfl rfl rfl)) ?_
                rintro lk_ x7 hF
                refine at_eq (s' := ⟨[(2, .ptr 3 1 0 0), (3, .ptr 4 1 0 0), (6, .ptr 5 1 0 0), (7, .ptr 6 1 0 0), (25, .int .i64 (a.codes.length : Int)), (26, .int .i64 x3), (45, .ptr 5 1 0 1), (46, .int .i64 x5.slots), (47, .ptr 6 1 0 1), (48, .int .i64 x6.slots), (49, .bool (!decide (x5.slots = x6.slots))), (52, .ptr 5 1 0 2), (53, .int .i64 x5.captures), (54, .ptr 6 1 0 2), (55, .int .i64 x6.captures), (56, .bool (!decide (x5.captures = x6.captures))), (59, .ptr 5 1 0 3), (60, .psl 0 6 (x5.instrs.map (cInstr.enc 0))), (61, .int .i64 (x5.instrs.length : Int)), (62, .ptr 6 1 0 3), (63, .psl 0 6 (x6.instrs.map (cInstr.enc 0))), (64, .int .i64 (x6.instrs.length : Int)), (65, .bool (!decide ((x5.instrs.length : Int) = (x6.instrs.length : Int)))), (69, .int .i64 (x5.instrs.length : Int)), (70, .int .i64 x7)], [(3, ⟨2, [cImage.row 0 a]⟩), (4, ⟨2, [cImage.row 0 b]⟩), (5, ⟨4, [cCode.row 0 x5]⟩), (6, ⟨4, [cCode.row 0 x6]⟩)], 7, 119, []⟩) rfl ?_
                replace hF : s_EqualImages_L2b a x3 go4 x5 x6 (itr (s_EqualImages_L2 a x3 go4 x5 x6) lk_) x7 = some q := hF
                unfold s_EqualImages_L2b at hF
                generalize itr (s_EqualImages_L2 a x3 go4 x5 x6) lk_ = go8 at hF ⊢
                refine at_seq ?_
                refine at_region ?_
                refine sxk 1 tabOK rfl ?_
                refine aops_nil ?_
                refine at_seq ?_
                refine ct_if hF rfl (fun hc hF => ?_) (fun hc hF => ?_)
                · refine at_skip ?_
                  refine at_seq ?_
                  refine at_block ?_
                  refine at_seq ?_
                  refine at_region ?_
                  refine sxk 2 tabOK rfl ?_
                  refine aops_nil ?_
                  refine at_seq ?_
                  refine at_drawnM (id := 12) 41 (by kernel_rfl) (by kernel_rfl) ?_
                  refine nx tabOK rfl ?_
                  refine nx tabOK rfl ?_
                  refine nx tabOK rfl ?_
                  obtain ⟨x9, hn_x9, hF⟩ := bnd_some hF
                  refine nv rfl (oc_addr cInstr hn_x9 tabOK rfl rfl rfl rfl) rfl ?_
                  refine nx tabOK rfl ?_
                  refine nx tabOK rfl ?_
                  refine nx tabOK rfl ?_
                  refine nx tabOK rfl ?_
                  refine nx tabOK rfl ?_
                  obtain ⟨x10, hn_x10, hF⟩ := bnd_some hF
                  refine nv rfl (oc_addr cInstr hn_x10 tabOK rfl rfl rfl rfl) rfl ?_
                  refine nx tabOK rfl ?_
                  refine nx tabOK rfl ?_
                  refine nx tabOK rfl ?_
                  refine nx tabOK rfl ?_
                  refine dn_ifn (g := 86) hF rfl (fun hc hF => ?_) (fun hc hF => ?_)
                  · refine nx tabOK rfl ?_
                    refine nx tabOK rfl ?_
                    refine nx tabOK rfl ?_
                    refine nx tabOK rfl ?_
                    refine nx tabOK rfl ?_
                    refine nx tabOK rfl ?_
                    refine nx tabOK rfl ?_
                    refine nx tabOK rfl ?_
                    refine nx tabOK rfl ?_
                    refine nx tabOK rfl ?_
                    refine nx tabOK rfl ?_
                    refine nx tabOK rfl ?_
                    refine nx tabOK rfl ?_
                    refine nx tabOK rfl ?_
                    refine nx tabOK rfl ?_
                    refine nx tabOK rfl ?_
                    refine nx tabOK rfl ?_
                    refine nx tabOK rfl ?_
                    refine nx tabOK rfl ?_
                    refine nx tabOK rfl ?_
                    refine nx tabOK rfl ?_
                    refine nx tabOK rfl ?_
                    refine nx tabOK rfl ?_
                    refine nx tabOK rfl ?_
                    refine nx tabOK rfl ?_
                    refine nx tabOK rfl ?_
                    refine nx tabOK rfl ?_
                    refine dn_nil rfl ?_
                    refine sxk 3 tabOK rfl ?_
                    refine aops_nil ?_
                    refine at_true rfl ?_
                    refine at_seq ?_
                    refine at_keep [] rfl ?_
                    refine at_region ?_
                    refine sxk 1 tabOK rfl ?_
                    refine aops_nil ?_
                    refine at_ret ?_
                    refine bk_r ?_
                    refine tk_r ?_
                    refine ll_r ?_
                    refine bk_r ?_
                    refine bk_r ?_
                    refine tk_r ?_
                    refine ll_r ?_
                    refine bk_r ?_
                    refine tk_r ?_
                    obtain rfl := Option.some.inj hF
                    refine ret_le rfl ?_
                    exact (vle_refl _)
                  · refine nx tabOK rfl ?_
                    refine nx tabOK rfl ?_
                    refine nx tabOK rfl ?_
                    obtain ⟨x11, hn_x11, hF⟩ := bnd_some hF
                    refine nv rfl (oc_addr cInstr hn_x11 tabOK rfl rfl rfl rfl) rfl ?_
                    refine nx tabOK rfl ?_
                    refine nx tabOK rfl ?_
                    refine nx tabOK rfl ?_
                    refine nx tabOK rfl ?_
                    refine nx tabOK rfl ?_
                    obtain ⟨x12, hn_x12, hF⟩ := bnd_some hF
                    refine nv rfl (oc_addr cInstr hn_x12 tabOK rfl rfl rfl rfl) rfl ?_
                    refine nx tabOK rfl ?_
                    refine nx tabOK rfl ?_
                    refine nx tabOK rfl ?_
                    refine nx tabOK rfl ?_
                    refine nx tabOK rfl ?_
                    refine dn_ifn (g := 101) hF rfl (fun hc hF => ?_) (fun hc hF => ?_)
                    · refine nx tabOK rfl ?_
                      refine nx tabOK rfl ?_
                      refine nx tabOK rfl ?_
                      refine nx tabOK rfl ?_
                      refine nx tabOK rfl ?_
                      refine nx tabOK rfl ?_
                      refine nx tabOK rfl ?_
                      refine nx tabOK rfl ?_
                      refine nx tabOK rfl ?_
                      refine nx tabOK rfl ?_
                      refine nx tabOK rfl ?_
                      refine nx tabOK rfl ?_
                      refine dn_nil rfl ?_
                      refine sxk 3 tabOK rfl ?_
                      refine aops_nil ?_
                      refine at_true rfl ?_
                      refine at_seq ?_
                      refine at_keep [] rfl ?_
                      refine at_region ?_
                      refine sxk 1 tabOK rfl ?_
                      refine aops_nil ?_
                      refine at_ret ?_
                      refine bk_r ?_
                      refine tk_r ?_
                      refine ll_r ?_
                      refine bk_r ?_
                      refine bk_r ?_
                      refine tk_r ?_
                      refine ll_r ?_
                      refine bk_r ?_
                      refine tk_r ?_
                      obtain rfl := Option.some.inj hF
                      refine ret_le rfl ?_
                      exact (vle_refl _)
                    · refine nx tabOK rfl ?_
                      refine nx tabOK rfl ?_
                      refine nx tabOK rfl ?_
                      obtain ⟨x13, hn_x13, hF⟩ := bnd_some hF
                      refine nv rfl (oc_addr cInstr hn_x13 tabOK rfl rfl rfl rfl) rfl ?_
                      refine nx tabOK rfl ?_
                      refine nx tabOK rfl ?_
                      refine nx tabOK rfl ?_
                      refine nx tabOK rfl ?_
                      refine nx tabOK rfl ?_
                      obtain ⟨x14, hn_x14, hF⟩ := bnd_some hF
                      refine nv rfl (oc_addr cInstr hn_x14 tabOK rfl rfl rfl rfl) rfl ?_
                      refine nx tabOK rfl ?_
                      refine nx tabOK rfl ?_
                      refine dn_nil rfl ?_
                      obtain ⟨x15, hx15, hF⟩ := bnd_some hF
                      refine call_eq (s_EqualData_ok RF x13.d x14.d x15 hx15) rfl ((rlL_cons (cDat.rl_agg (l := 0) (l' := 0) _ x13.d rfl) (rlL_cons (cDat.rl_agg (l := 0) (l' := 0) _ x14.d rfl) rlL_nil))) rfl rfl ?_
                      refine sxk 2 tabOK rfl ?_
                      refine aops_nil ?_
                      refine ct_bn hF rfl (fun hc hF => ?_) (fun hc hF => ?_)
                      · refine at_seq ?_
                        refine at_keep [] rfl ?_
                        refine at_region ?_
                        refine sxk 1 tabOK rfl ?_
                        refine aops_nil ?_
                        refine at_ret ?_
                        refine bk_r ?_
                        refine tk_r ?_
                        refine ll_r ?_
                        refine bk_r ?_
                        refine bk_r ?_
                        refine tk_r ?_
                        refine ll_r ?_
                        refine bk_r ?_
                        refine tk_r ?_
                        obtain rfl := Option.some.inj hF
                        refine ret_le rfl ?_
                        exact (vle_refl _)
                      · refine at_skip ?_
                        refine bk_n ?_
                        refine at_keep [2, 3, 6, 7, 25, 26, 45, 46, 47, 48, 49, 52, 53, 54, 55, 56, 59, 60, 61, 62, 63, 64, 65, 69, 70, 87, 88, 89, 90, 91, 92, 93, 94, 95, 96, 97, 98, 99, 102, 103, 104, 105, 106, 107, 108, 109, 110, 111, 112, 113, 114, 115] rfl ?_
                        refine at_region ?_
                        obtain ⟨hb, hF⟩ := chk_some hF
                        refine s_add tabOK rfl rfl rfl hb rfl ?_
                        refine sxk 1 tabOK rfl ?_
                        refine aops_nil ?_
                        exact arr_loop ⟨(x7 + 1), hF, (le_down (down_all (ee_cons rfl rfl (Nat.le_of_ble_eq_true rfl) (ee_cons rfl rfl (Nat.le_of_ble_eq_true rfl) (ee_cons rfl rfl (Nat.le_of_ble_eq_true rfl) (ee_cons rfl rfl (Nat.le_of_ble_eq_true rfl) (ee_cons rfl rfl rfl (ee_cons rfl rfl rfl (ee_cons rfl rfl (Nat.le_of_ble_eq_true rfl) (ee_cons rfl rfl rfl (ee_cons rfl rfl (Nat.le_of_ble_eq_true rfl) (ee_cons rfl rfl rfl (ee_cons rfl rfl rfl (ee_cons rfl rfl (Nat.le_of_ble_eq_true rfl) (ee_cons rfl rfl rfl (ee_cons rfl rfl (Nat.le_of_ble_eq_true rfl) (ee_cons rfl rfl rfl (ee_cons rfl rfl rfl (ee_cons rfl rfl (Nat.le_of_ble_eq_true rfl) (ee_cons rfl rfl (cInstr.ok_psl _ rfl) (ee_cons rfl rfl rfl (ee_cons rfl rfl (Nat.le_of_ble_eq_true rfl) (ee_cons rfl rfl (cInstr.ok_psl _ rfl) (ee_cons rfl rfl rfl (ee_cons rfl rfl rfl (ee_cons rfl rfl rfl (ee_cons rfl rfl rfl ee_nil))))))))))))))))))))))))) (he_cons rfl rfl rfl (row_one (cImage.row_ok _ rfl)) (he_cons rfl rfl rfl (row_one (cImage.row_ok _ rfl)) (he_cons rfl rfl rfl (row_one (cCode.row_ok _ rfl)) (he_cons rfl rfl rfl (row_one (cCode.row_ok _ rfl)) he_nil)))) rfl rfl rfl rfl))⟩
                · refine at_exit ?_
                  refine tk_x ?_
                  refine ll_x ?_
                  refine bk_hit ?_
                  refine bk_n ?_
                  refine at_region ?_
                  obtain ⟨hb, hF⟩ := chk_some hF
                  refine s_add tabOK rfl rfl rfl hb rfl ?_
                  refine sxk 1 tabOK rfl ?_
                  refine aops_nil ?_
                  exact arr_loop ⟨(x3 + 1), hF, (le_down (down_all (ee_cons rfl rfl (Nat.le_of_ble_eq_true rfl) (ee_cons rfl rfl (Nat.le_of_ble_eq_true rfl) (ee_cons rfl rfl rfl (ee_cons rfl rfl rfl ee_nil)))) (he_cons rfl rfl rfl (row_one (cImage.row_ok _ rfl)) (he_cons rfl rfl rfl (row_one (cImage.row_ok _ rfl)) he_nil)) rfl rfl rfl rfl))⟩
      · refine at_exit ?_
        refine tk_x ?_
        refine ll_x ?_
        refine bk_hit ?_
        refine at_seq ?_
        refine at_region ?_
        refine sxk 1 tabOK rfl ?_
        refine aops_nil ?_
        refine at_ret ?_
        obtain rfl := Option.some.inj hF
        refine ret_le rfl ?_
        exact (vle_refl _)

theorem s_l8Value_ok (x_1 : PVal) (pairs : Int) (q : Bool) (hF : s_l8Value x_1 pairs = some q) : FC Try.prog 59 [.agg (cVal.row 0 x_1), .int .i64 pairs] [] 3 (fun x _ => x = .bool q) := by
  refine FC.of_le ?_
  refine fc_body tabOK Try.func59 rfl Try.ntmps59 rfl rfl rfl ?_
  unfold s_l8Value at hF
  refine at_seq ?_
  refine at_region ?_
  refine sxk 2 tabOK rfl ?_
  refine aops_nil ?_
  refine at_seq ?_
  refine at_seq ?_
  refine at_region ?_
  refine sxk 2 tabOK rfl ?_
  refine aops_nil ?_
  refine at_block ?_
  refine at_seq ?_
  refine at_seq ?_
  refine at_region ?_
  refine sxk 2 tabOK rfl ?_
  refine aops_nil ?_
  refine ct_if hF rfl (fun hc hF => ?_) (fun hc hF => ?_)
  · refine at_skip ?_
    refine at_true rfl ?_
    refine at_seq ?_
    refine at_keep [2] rfl ?_
    refine at_region ?_
    refine sxk 4 tabOK rfl ?_
    refine ops_if (g := 13) hF rfl (fun hc hF => ?_) (fun hc hF => ?_)
    · refine sxk 5 tabOK rfl ?_
      refine aops_nil ?_
      refine at_ret ?_
      refine bk_r ?_
      refine tk_r ?_
      obtain rfl := Option.some.inj hF
      refine ret_le rfl ?_
      exact (vle_refl _)
    · refine sxk 5 tabOK rfl ?_
      refine aops_nil ?_
      refine at_ret ?_
      refine bk_r ?_
      refine tk_r ?_
      obtain rfl := Option.some.inj hF
      refine ret_le rfl ?_
      exact (vle_refl _)
  · refine at_region ?_
    refine sxk 2 tabOK rfl ?_
    refine aops_nil ?_
    refine ct_if hF rfl (fun hc hF => ?_) (fun hc hF => ?_)
    · refine at_seq ?_
      refine at_keep [2] rfl ?_
      refine at_region ?_
      refine sxk 4 tabOK rfl ?_
      refine ops_if (g := 13) hF rfl (fun hc hF => ?_) (fun hc hF => ?_)
      · refine sxk 5 tabOK rfl ?_
        refine aops_nil ?_
        refine at_ret ?_
        refine bk_r ?_
        refine tk_r ?_
        obtain rfl := Option.some.inj hF
        refine ret_le rfl ?_
        exact (vle_refl _)
      · refine sxk 5 tabOK rfl ?_
        refine aops_nil ?_
        refine at_ret ?_
        refine bk_r ?_
        refine tk_r ?_
        obtain rfl := Option.some.inj hF
        refine ret_le rfl ?_
        exact (vle_refl _)
    · refine at_seq ?_
      refine at_region ?_
      refine sxk 2 tabOK rfl ?_
      refine aops_nil ?_
      refine ct_if hF rfl (fun hc hF => ?_) (fun hc hF => ?_)
      · refine at_seq ?_
        refine at_keep [2] rfl ?_
        refine at_region ?_
        refine sxk 2 tabOK rfl ?_
        obtain ⟨x3, hx3, hF⟩ := bnd_some hF
        refine call_eq (s_l1In_ok x_1.number 0 1 x3 hx3) rfl ((rlL_cons (rfl) (rlL_cons (rfl) (rlL_cons (rfl) rlL_nil)))) rfl rfl ?_
        refine sxk 1 tabOK rfl ?_
        refine ops_ifb (g := 23) hF rfl (fun hc hF => ?_) (fun hc hF => ?_)
        · refine sxk 5 tabOK rfl ?_
          refine aops_nil ?_
          refine at_ret ?_
          refine bk_r ?_
          refine tk_r ?_
          obtain rfl := Option.some.inj hF
          refine ret_le rfl ?_
          exact (vle_refl _)
        · refine sxk 5 tabOK rfl ?_
          refine aops_nil ?_
          refine at_ret ?_
          refine bk_r ?_
          refine tk_r ?_
          obtain rfl := Option.some.inj hF
          refine ret_le rfl ?_
          exact (vle_refl _)
      · refine at_seq ?_
        refine at_keep [1, 2, 6] rfl ?_
        refine at_region ?_
        refine sxk 2 tabOK rfl ?_
        refine aops_nil ?_
        refine ct_if hF rfl (fun hc hF => ?_) (fun hc hF => ?_)
        · refine at_seq ?_
          refine at_region ?_
          refine sxk 2 tabOK rfl ?_
          obtain ⟨x3, hx3, hF⟩ := bnd_some hF
          refine call_eq (s_l1In_ok x_1.number (-999999999) 999999999 x3 hx3) rfl ((rlL_cons (rfl) (rlL_cons (rfl) (rlL_cons (rfl) rlL_nil)))) rfl rfl ?_
          refine sxk 1 tabOK rfl ?_
          refine ops_ifb (g := 33) hF rfl (fun hc hF => ?_) (fun hc hF => ?_)
          · refine sxk 5 tabOK rfl ?_
            refine aops_nil ?_
            refine at_ret ?_
            refine bk_r ?_
            refine tk_r ?_
            obtain rfl := Option.some.inj hF
            refine ret_le rfl ?_
            exact (vle_refl _)
          · refine sxk 5 tabOK rfl ?_
            refine aops_nil ?_
            refine at_ret ?_
            refine bk_r ?_
            refine tk_r ?_
            obtain rfl := Option.some.inj hF
            refine ret_le rfl ?_
            exact (vle_refl _)
        · refine at_seq ?_
          refine at_region ?_
          refine sxk 2 tabOK rfl ?_
          refine aops_nil ?_
          refine ct_if hF rfl (fun hc hF => ?_) (fun hc hF => ?_)
          · refine at_seq ?_
            refine at_region ?_
            refine sxk 4 tabOK rfl ?_
            refine ops_if (g := 43) hF rfl (fun hc hF => ?_) (fun hc hF => ?_)
            · refine sxk 2 tabOK rfl ?_
              obtain ⟨x3, hx3, hF⟩ := bnd_some hF
              refine call_eq (s_IsSymbol_ok x_1.text x3 hx3) rfl ((rlL_cons (rfl) rlL_nil)) rfl rfl ?_
              refine sxk 2 tabOK rfl ?_
              refine aops_nil ?_
              refine at_ret ?_
              refine bk_r ?_
              refine tk_r ?_
              obtain rfl := Option.some.inj hF
              refine ret_le rfl ?_
              exact (vle_refl _)
            · refine sxk 5 tabOK rfl ?_
              refine aops_nil ?_
              refine at_ret ?_
              refine bk_r ?_
              refine tk_r ?_
              obtain rfl := Option.some.inj hF
              refine ret_le rfl ?_
              exact (vle_refl _)
          · refine at_seq ?_
            refine at_region ?_
            refine sxk 2 tabOK rfl ?_
            refine aops_nil ?_
            refine ct_if hF rfl (fun hc hF => ?_) (fun hc hF => ?_)
            · refine at_seq ?_
              refine at_keep [2] rfl ?_
              refine at_region ?_
              refine sxk 4 tabOK rfl ?_
              refine ops_if (g := 53) hF rfl (fun hc hF => ?_) (fun hc hF => ?_)
              · refine sxk 2 tabOK rfl ?_
                obtain ⟨x3, hx3, hF⟩ := bnd_some hF
                refine call_eq (s_l1String_ok x_1.text x3 hx3) rfl ((rlL_cons (rfl) rlL_nil)) rfl rfl ?_
                refine sxk 2 tabOK rfl ?_
                refine aops_nil ?_
                refine at_ret ?_
                refine bk_r ?_
                refine tk_r ?_
                obtain rfl := Option.some.inj hF
                refine ret_le rfl ?_
                exact (vle_refl _)
              · refine sxk 5 tabOK rfl ?_
                refine aops_nil ?_
                refine at_ret ?_
                refine bk_r ?_
                refine tk_r ?_
                obtain rfl := Option.some.inj hF
                refine ret_le rfl ?_
                exact (vle_refl _)
            · refine at_seq ?_
              refine at_region ?_
              refine sxk 2 tabOK rfl ?_
              refine aops_nil ?_
              refine ct_if hF rfl (fun hc hF => ?_) (fun hc hF => ?_)
              · refine at_seq ?_
                refine at_keep [2] rfl ?_
                refine at_drawnM (id := 14) 5 (by kernel_rfl) (by kernel_rfl) ?_
                refine nx tabOK rfl ?_
                refine nx tabOK rfl ?_
                obtain ⟨x3, hx3, hF⟩ := bnd_some hF
                refine n_call (s_PrimitiveNames_ok  x3 hx3) rfl (rlL_nil) (cStr.rl_psl (l := 1) (l' := 1) _ x3 rfl) rfl ?_
                refine nv rfl (oc_len cStr tabOK rfl rfl rfl) rfl ?_
                obtain ⟨hb, hF⟩ := chk_some hF
                refine nv rfl (ov_sub tabOK rfl rfl hb) rfl ?_
                refine dn_nil rfl ?_
                obtain ⟨x4, hx4, hF⟩ := bnd_some hF
                refine call_eq (s_l1In_ok x_1.number 0 ((x3.length : Int) - 1) x4 hx4) rfl ((rlL_cons (rfl) (rlL_cons (rfl) (rlL_cons (rfl) rlL_nil)))) rfl rfl ?_
                refine sxk 1 tabOK rfl ?_
                refine ops_ifb (g := 66) hF rfl (fun hc hF => ?_) (fun hc hF => ?_)
                · refine sxk 5 tabOK rfl ?_
                  refine aops_nil ?_
                  refine at_ret ?_
                  refine bk_r ?_
                  refine tk_r ?_
                  obtain rfl := Option.some.inj hF
                  refine ret_le rfl ?_
                  exact (vle_refl _)
                · refine sxk 5 tabOK rfl ?_
                  refine aops_nil ?_
                  refine at_ret ?_
                  refine bk_r ?_
                  refine tk_r ?_
                  obtain rfl := Option.some.inj hF
                  refine ret_le rfl ?_
                  exact (vle_refl _)
              · refine at_seq ?_
                refine at_keep [1, 2, 6] rfl ?_
                refine at_region ?_
                refine sxk 2 tabOK rfl ?_
                refine aops_nil ?_
                refine ct_if hF rfl (fun hc hF => ?_) (fun hc hF => ?_)
                · refine at_seq ?_
                  refine at_region ?_
                  refine sxk 3 tabOK rfl ?_
                  obtain ⟨hb, hF⟩ := chk_some hF
                  refine s_sub tabOK rfl rfl rfl hb rfl ?_
                  obtain ⟨x3, hx3, hF⟩ := bnd_some hF
                  refine call_eq (s_l1In_ok x_1.number 0 (pairs - 1) x3 hx3) rfl ((rlL_cons (rfl) (rlL_cons (rfl) (rlL_cons (rfl) rlL_nil)))) rfl rfl ?_
                  refine sxk 1 tabOK rfl ?_
                  refine ops_ifb (g := 78) hF rfl (fun hc hF => ?_) (fun hc hF => ?_)
                  · refine sxk 5 tabOK rfl ?_
                    refine aops_nil ?_
                    refine at_ret ?_
                    refine bk_r ?_
                    refine tk_r ?_
                    obtain rfl := Option.some.inj hF
                    refine ret_le rfl ?_
                    exact (vle_refl _)
                  · refine sxk 5 tabOK rfl ?_
                    refine aops_nil ?_
                    refine at_ret ?_
                    refine bk_r ?_
                    refine tk_r ?_
                    obtain rfl := Option.some.inj hF
                    refine ret_le rfl ?_
                    exact (vle_refl _)
                · refine at_seq ?_
                  refine at_seq ?_
                  refine at_region ?_
                  refine sxk 2 tabOK rfl ?_
                  refine aops_nil ?_
                  refine ct_if hF rfl (fun hc hF => ?_) (fun hc hF => ?_)
                  · refine at_skip ?_
                    refine at_true rfl ?_
                    refine at_seq ?_
                    refine at_region ?_
                    refine sxk 2 tabOK rfl ?_
                    obtain ⟨x3, hx3, hF⟩ := bnd_some hF
                    refine call_eq (s_l1In_ok x_1.number 0 2000 x3 hx3) rfl ((rlL_cons (rfl) (rlL_cons (rfl) (rlL_cons (rfl) rlL_nil)))) rfl rfl ?_
                    refine sxk 1 tabOK rfl ?_
                    refine ops_ifb (g := 89) hF rfl (fun hc hF => ?_) (fun hc hF => ?_)
                    · refine sxk 5 tabOK rfl ?_
                      refine aops_nil ?_
                      refine at_ret ?_
                      refine bk_r ?_
                      refine tk_r ?_
                      obtain rfl := Option.some.inj hF
                      refine ret_le rfl ?_
                      exact (vle_refl _)
                    · refine sxk 5 tabOK rfl ?_
                      refine aops_nil ?_
                      refine at_ret ?_
                      refine bk_r ?_
                      refine tk_r ?_
                      obtain rfl := Option.some.inj hF
                      refine ret_le rfl ?_
                      exact (vle_refl _)
                  · refine at_region ?_
                    refine sxk 2 tabOK rfl ?_
                    refine aops_nil ?_
                    refine ct_if hF rfl (fun hc hF => ?_) (fun hc hF => ?_)
                    · refine at_seq ?_
                      refine at_keep [2] rfl ?_
                      refine at_region ?_
                      refine sxk 2 tabOK rfl ?_
                      obtain ⟨x3, hx3, hF⟩ := bnd_some hF
                      refine call_eq (s_l1In_ok x_1.number 0 2000 x3 hx3) rfl ((rlL_cons (rfl) (rlL_cons (rfl) (rlL_cons (rfl) rlL_nil)))) rfl rfl ?_
                      refine sxk 1 tabOK rfl ?_
                      refine ops_ifb (g := 89) hF rfl (fun hc hF => ?_) (fun hc hF => ?_)
                      · refine sxk 5 tabOK rfl ?_
                        refine aops_nil ?_
                        refine at_ret ?_
                        refine bk_r ?_
                        refine tk_r ?_
                        obtain rfl := Option.some.inj hF
                        refine ret_le rfl ?_
                        exact (vle_refl _)
                      · refine sxk 5 tabOK rfl ?_
                        refine aops_nil ?_
                        refine at_ret ?_
                        refine bk_r ?_
                        refine tk_r ?_
                        obtain rfl := Option.some.inj hF
                        refine ret_le rfl ?_
                        exact (vle_refl _)
                    · refine at_skip ?_
                      refine bk_n ?_
                      refine at_seq ?_
                      refine at_keep [] rfl ?_
                      refine at_region ?_
                      refine sxk 1 tabOK rfl ?_
                      refine aops_nil ?_
                      refine at_ret ?_
                      obtain rfl := Option.some.inj hF
                      refine ret_le rfl ?_
                      exact (vle_refl _)

theorem s_ArePairs_ok (pairs : List PPair) (q : Bool) (hF : s_ArePairs pairs = some q) : FC Try.prog 15 [.psl 0 6 (pairs.map (cPair.enc 0))] [] 3 (fun x _ => x = .bool q) := by
  refine FC.of_le ?_
  refine fc_body tabOK Try.func15 rfl Try.ntmps15 rfl rfl rfl ?_
  unfold s_ArePairs at hF
  refine at_seq ?_
  refine at_region ?_
  refine sxk 1 tabOK rfl ?_
  refine aops_nil ?_
  refine at_seq ?_
  refine at_seq ?_
  refine at_region ?_
  refine sxk 1 tabOK rfl ?_
  refine sv rfl (oc_len cPair tabOK rfl rfl rfl) rfl ?_
  refine sxk 1 tabOK rfl ?_
  refine aops_nil ?_
  refine at_block ?_
  refine cl_loop (σ := Int) (fun x2 => ⟨[(0, .psl 0 6 (pairs.map (cPair.enc 0))), (5, .psl 0 6 (pairs.map (cPair.enc 0))), (6, .int .i64 (pairs.length : Int)), (7, .int .i64 x2)], [], 3, 28, []⟩) (s_ArePairs_L1 pairs) LF 0 hF (le_down (down_all (ee_cons rfl rfl (cPair.ok_psl _ rfl) (ee_cons rfl rfl (cPair.ok_psl _ rfl) (ee_cons rfl rfl rfl (ee_cons rfl rfl rfl ee_nil)))) he_nil rfl rfl rfl rfl)) ?_
  rintro lk_ x2 hF
  refine at_eq (s' := ⟨[(0, .psl 0 6 (pairs.map (cPair.enc 0))), (5, .psl 0 6 (pairs.map (cPair.enc 0))), (6, .int .i64 (pairs.length : Int)), (7, .int .i64 x2)], [], 3, 28, []⟩) rfl ?_
  replace hF : s_ArePairs_L1b pairs (itr (s_ArePairs_L1 pairs) lk_) x2 = some q := hF
  unfold s_ArePairs_L1b at hF
  generalize itr (s_ArePairs_L1 pairs) lk_ = go3 at hF ⊢
  refine at_seq ?_
  refine at_region ?_
  refine sxk 1 tabOK rfl ?_
  refine aops_nil ?_
  refine at_seq ?_
  refine ct_if hF rfl (fun hc hF => ?_) (fun hc hF => ?_)
  · refine at_skip ?_
    refine at_seq ?_
    refine at_block ?_
    refine at_seq ?_
    refine at_region ?_
    refine sxk 1 tabOK rfl ?_
    obtain ⟨x4, hn_x4, hF⟩ := bnd_some hF
    refine sv rfl (oc_addr cPair hn_x4 tabOK rfl rfl rfl rfl) rfl ?_
    refine sxk 4 tabOK rfl ?_
    refine aops_nil ?_
    refine at_seq ?_
    refine at_region ?_
    refine sxk 3 tabOK rfl ?_
    obtain ⟨x5, hx5, hF⟩ := bnd_some hF
    refine call_eq (s_l8Value_ok x4.h x2 x5 hx5) rfl ((rlL_cons (cVal.rl_agg (l := 0) (l' := 0) _ x4.h rfl) (rlL_cons (rfl) rlL_nil))) rfl rfl ?_
    refine sxk 2 tabOK rfl ?_
    refine ops_ifnb (g := 17) hF rfl (fun hc hF => ?_) (fun hc hF => ?_)
    · refine sxk 6 tabOK rfl ?_
      refine aops_nil ?_
      refine at_true rfl ?_
      refine at_seq ?_
      refine at_keep [] rfl ?_
      refine at_region ?_
      refine sxk 1 tabOK rfl ?_
      refine aops_nil ?_
      refine at_ret ?_
      refine bk_r ?_
      refine tk_r ?_
      refine ll_r ?_
      refine bk_r ?_
      refine tk_r ?_
      obtain rfl := Option.some.inj hF
      refine ret_le rfl ?_
      exact (vle_refl _)
    · refine sxk 3 tabOK rfl ?_
      obtain ⟨x6, hx6, hF⟩ := bnd_some hF
      refine call_eq (s_l8Value_ok x4.t x2 x6 hx6) rfl ((rlL_cons (cVal.rl_agg (l := 0) (l' := 0) _ x4.t rfl) (rlL_cons (rfl) rlL_nil))) rfl rfl ?_
      refine sxk 2 tabOK rfl ?_
      refine aops_nil ?_
      refine ct_bn hF rfl (fun hc hF => ?_) (fun hc hF => ?_)
      · refine at_seq ?_
        refine at_keep [] rfl ?_
        refine at_region ?_
        refine sxk 1 tabOK rfl ?_
        refine aops_nil ?_
        refine at_ret ?_
        refine bk_r ?_
        refine tk_r ?_
        refine ll_r ?_
        refine bk_r ?_
        refine tk_r ?_
        obtain rfl := Option.some.inj hF
        refine ret_le rfl ?_
        exact (vle_refl _)
      · refine at_skip ?_
        refine bk_n ?_
        refine at_keep [0, 5, 6, 7, 18, 19, 20, 21, 22] rfl ?_
        refine at_region ?_
        obtain ⟨hb, hF⟩ := chk_some hF
        refine s_add tabOK rfl rfl rfl hb rfl ?_
        refine sxk 1 tabOK rfl ?_
        refine aops_nil ?_
        exact arr_loop ⟨(x2 + 1), hF, (le_down (down_all (ee_cons rfl rfl (cPair.ok_psl _ rfl) (ee_cons rfl rfl (cPair.ok_psl _ rfl) (ee_cons rfl rfl rfl (ee_cons rfl rfl rfl ee_nil)))) he_nil rfl rfl rfl rfl))⟩
  · refine at_exit ?_
    refine tk_x ?_
    refine ll_x ?_
    refine bk_hit ?_
    refine at_seq ?_
    refine at_region ?_
    refine sxk 1 tabOK rfl ?_
    refine sv rfl (oc_len cPair tabOK rfl rfl rfl) rfl ?_
    refine sxk 2 tabOK rfl ?_
    refine aops_nil ?_
    refine at_ret ?_
    obtain rfl := Option.some.inj hF
    refine ret_le rfl ?_
    exact (vle_refl _)

theorem s_IsValue_ok (x_1 : PVal) (pairs : List PPair) (q : Bool) (hF : s_IsValue x_1 pairs = some q) : FC Try.prog 20 [.agg (cVal.row 0 x_1), .psl 0 6 (pairs.map (cPair.enc 0))] [] 3 (fun x _ => x = .bool q) := by
  refine FC.of_le ?_
  refine fc_body tabOK Try.func20 rfl Try.ntmps20 rfl rfl rfl ?_
  unfold s_IsValue at hF
  refine at_seq ?_
  refine at_region ?_
  refine sxk 2 tabOK rfl ?_
  refine aops_nil ?_
  refine at_seq ?_
  refine at_region ?_
  refine sxk 1 tabOK rfl ?_
  obtain ⟨x3, hx3, hF⟩ := bnd_some hF
  refine call_eq (s_ArePairs_ok pairs x3 hx3) rfl ((rlL_cons (cPair.rl_psl (l := 0) (l' := 0) _ pairs rfl) rlL_nil)) rfl rfl ?_
  refine sxk 1 tabOK rfl ?_
  refine ops_ifb (g := 7) hF rfl (fun hc hF => ?_) (fun hc hF => ?_)
  · refine sxk 2 tabOK rfl ?_
    refine sv rfl (oc_len cPair tabOK rfl rfl rfl) rfl ?_
    obtain ⟨x4, hx4, hF⟩ := bnd_some hF
    refine call_eq (s_l8Value_ok x_1 (pairs.length : Int) x4 hx4) rfl ((rlL_cons (cVal.rl_agg (l := 0) (l' := 0) _ x_1 rfl) (rlL_cons (rfl) rlL_nil))) rfl rfl ?_
    refine sxk 2 tabOK rfl ?_
    refine aops_nil ?_
    refine at_ret ?_
    obtain rfl := Option.some.inj hF
    refine ret_le rfl ?_
    exact (vle_refl _)
  · refine sxk 6 tabOK rfl ?_
    refine aops_nil ?_
    refine at_ret ?_
    obtain rfl := Option.some.inj hF
    refine ret_le rfl ?_
    exact (vle_refl _)

theorem s_l8Cells_bok (s_l8Cells : PDat → Option Int) (h_s_l8Cells : ∀ (d : PDat) (q : Int), s_l8Cells d = some q → FC Try.prog 71 [.agg (cDat.row 0 d)] [] 3 (fun x _ => x = .int .i64 q)) (d : PDat) (q : Int) (hF : s_l8Cells_b s_l8Cells d = some q) : FC Try.prog 71 [.agg (cDat.row 0 d)] [] 3 (fun x _ => x = .int .i64 q) := by
  refine FC.of_le ?_
  refine fc_body tabOK Try.func71 rfl Try.ntmps71 rfl rfl rfl ?_
  unfold s_l8Cells_b at hF
  refine at_seq ?_
  refine at_region ?_
  refine sxk 2 tabOK rfl ?_
  refine aops_nil ?_
  refine at_seq ?_
  refine at_region ?_
  refine sxk 1 tabOK rfl ?_
  refine aops_nil ?_
  refine at_seq ?_
  refine at_seq ?_
  refine at_region ?_
  refine sxk 2 tabOK rfl ?_
  refine sv rfl (oc_len cDat tabOK rfl rfl rfl) rfl ?_
  refine sxk 1 tabOK rfl ?_
  refine aops_nil ?_
  refine at_block ?_
  refine cl_loop (σ := Int × Int) (fun v => match v with | (x3, x4) => ⟨[(3, .int .i64 x3), (7, .psl 0 4 (d.items.map (cDat.enc 0))), (8, .int .i64 (d.items.length : Int)), (9, .int .i64 x4)], [], 4, 20, []⟩) (s_l8Cells_L1 s_l8Cells d) LF (0, 0) hF (le_down (down_all (ee_cons rfl rfl rfl (ee_cons rfl rfl (cDat.ok_psl _ rfl) (ee_cons rfl rfl rfl (ee_cons rfl rfl rfl ee_nil)))) he_nil rfl rfl rfl rfl)) ?_
  rintro lk_ ⟨x3, x4⟩ hF
  refine at_eq (s' := ⟨[(3, .int .i64 x3), (7, .psl 0 4 (d.items.map (cDat.enc 0))), (8, .int .i64 (d.items.length : Int)), (9, .int .i64 x4)], [], 4, 20, []⟩) rfl ?_
  replace hF : s_l8Cells_L1b s_l8Cells d (itr (s_l8Cells_L1 s_l8Cells d) lk_) x3 x4 = some q := hF
  unfold s_l8Cells_L1b at hF
  generalize itr (s_l8Cells_L1 s_l8Cells d) lk_ = go5 at hF ⊢
  refine at_seq ?_
  refine at_region ?_
  refine sxk 1 tabOK rfl ?_
  refine aops_nil ?_
  refine at_seq ?_
  refine ct_if hF rfl (fun hc hF => ?_) (fun hc hF => ?_)
  · refine at_skip ?_
    refine at_seq ?_
    refine at_block ?_
    refine at_seq ?_
    refine at_region ?_
    obtain ⟨x6, hn_x6, hF⟩ := bnd_some hF
    refine sv rfl (oc_addr cDat hn_x6 tabOK rfl rfl rfl rfl) rfl ?_
    refine sxk 3 tabOK rfl ?_
    refine aops_nil ?_
    refine at_region ?_
    refine sxk 1 tabOK rfl ?_
    obtain ⟨hb, hF⟩ := chk_some hF
    refine s_add tabOK rfl rfl rfl hb rfl ?_
    refine sxk 1 tabOK rfl ?_
    obtain ⟨x7, hx7, hF⟩ := bnd_some hF
    refine call_eq (h_s_l8Cells x6 x7 hx7) rfl ((rlL_cons (cDat.rl_agg (l := 0) (l' := 0) _ x6 rfl) rlL_nil)) rfl rfl ?_
    obtain ⟨hb, hF⟩ := chk_some hF
    refine s_add tabOK rfl rfl rfl hb rfl ?_
    refine sxk 1 tabOK rfl ?_
    refine aops_nil ?_
    refine bk_n ?_
    refine at_keep [3, 7, 8, 9] rfl ?_
    refine at_region ?_
    obtain ⟨hb, hF⟩ := chk_some hF
    refine s_add tabOK rfl rfl rfl hb rfl ?_
    refine sxk 1 tabOK rfl ?_
    refine aops_nil ?_
    exact arr_loop ⟨(((x3 + 1) + x7), (x4 + 1)), hF, (le_down (down_all (ee_cons rfl rfl rfl (ee_cons rfl rfl (cDat.ok_psl _ rfl) (ee_cons rfl rfl rfl (ee_cons rfl rfl rfl ee_nil)))) he_nil rfl rfl rfl rfl))⟩
  · refine at_exit ?_
    refine tk_x ?_
    refine ll_x ?_
    refine bk_hit ?_
    refine at_seq ?_
    refine at_region ?_
    refine sxk 2 tabOK rfl ?_
    refine aops_nil ?_
    refine at_ret ?_
    obtain rfl := Option.some.inj hF
    refine ret_le rfl ?_
    exact (vle_refl _)

theorem s_l8Cells_all (n : Nat) : (∀ (d : PDat) (q : Int), s_l8Cells n d = some q → FC Try.prog 71 [.agg (cDat.row 0 d)] [] 3 (fun x _ => x = .int .i64 q)) := by
  induction n with
  | zero => exact fun _ q h => by cases h
  | succ n ih => exact fun d q h => s_l8Cells_bok (s_l8Cells n) ih d q h

theorem s_l8Cells_ok (n : Nat) (d : PDat) (q : Int) (hF : s_l8Cells n d = some q) : FC Try.prog 71 [.agg (cDat.row 0 d)] [] 3 (fun x _ => x = .int .i64 q) := (s_l8Cells_all n) d q hF

theorem s_HasScope_ok (list : List Int) (x_1 : Int) (q : Bool) (hF : s_HasScope list x_1 = some q) : FC Try.prog 121 [.psl 0 1 (list.map (cInt.enc 0)), .int .i64 x_1] [] 3 (fun x _ => x = .bool q) := by
  refine FC.of_le ?_
  refine fc_body tabOK Try.func121 rfl Try.ntmps121 rfl rfl rfl ?_
  unfold s_HasScope at hF
  refine at_seq ?_
  refine at_region ?_
  refine sxk 1 tabOK rfl ?_
  refine aops_nil ?_
  refine at_seq ?_
  refine at_seq ?_
  refine at_region ?_
  refine sxk 1 tabOK rfl ?_
  refine sv rfl (oc_len cInt tabOK rfl rfl rfl) rfl ?_
  refine sxk 1 tabOK rfl ?_
  refine aops_nil ?_
  refine at_block ?_
  refine cl_loop (σ := Int) (fun x3 => ⟨[(1, .int .i64 x_1), (7, .psl 0 1 (list.map (cInt.enc 0))), (8, .int .i64 (list.length : Int)), (9, .int .i64 x3)], [], 3, 17, []⟩) (s_HasScope_L1 list x_1) LF 0 hF (le_down (down_all (ee_cons rfl rfl rfl (ee_cons rfl rfl (cInt.ok_psl _ rfl) (ee_cons rfl rfl rfl (ee_cons rfl rfl rfl ee_nil)))) he_nil rfl rfl rfl rfl)) ?_
  rintro lk_ x3 hF
  refine at_eq (s' := ⟨[(1, .int .i64 x_1), (7, .psl 0 1 (list.map (cInt.enc 0))), (8, .int .i64 (list.length : Int)), (9, .int .i64 x3)], [], 3, 17, []⟩) rfl ?_
  replace hF : s_HasScope_L1b list x_1 (itr (s_HasScope_L1 list x_1) lk_) x3 = some q := hF
  unfold s_HasScope_L1b at hF
  generalize itr (s_HasScope_L1 list x_1) lk_ = go4 at hF ⊢
  refine at_seq ?_
  refine at_region ?_
  refine sxk 1 tabOK rfl ?_
  refine aops_nil ?_
  refine at_seq ?_
  refine ct_if hF rfl (fun hc hF => ?_) (fun hc hF => ?_)
  · refine at_skip ?_
    refine at_seq ?_
    refine at_block ?_
    refine at_seq ?_
    refine at_region ?_
    obtain ⟨x5, hn_x5, hF⟩ := bnd_some hF
    refine sv rfl (oc_addr cInt hn_x5 tabOK rfl rfl rfl rfl) rfl ?_
    refine sxk 2 tabOK rfl ?_
    refine aops_nil ?_
    refine at_seq ?_
    refine at_region ?_
    refine sxk 3 tabOK rfl ?_
    refine aops_nil ?_
    refine ct_if hF rfl (fun hc hF => ?_) (fun hc hF => ?_)
    · refine at_seq ?_
      refine at_keep [] rfl ?_
      refine at_region ?_
      refine sxk 1 tabOK rfl ?_
      refine aops_nil ?_
      refine at_ret ?_
      refine bk_r ?_
      refine tk_r ?_
      refine ll_r ?_
      refine bk_r ?_
      refine tk_r ?_
      obtain rfl := Option.some.inj hF
      refine ret_le rfl ?_
      exact (vle_refl _)
    · refine at_skip ?_
      refine bk_n ?_
      refine at_keep [1, 7, 8, 9] rfl ?_
      refine at_region ?_
      obtain ⟨hb, hF⟩ := chk_some hF
      refine s_add tabOK rfl rfl rfl hb rfl ?_
      refine sxk 1 tabOK rfl ?_
      refine aops_nil ?_
      exact arr_loop ⟨(x3 + 1), hF, (le_down (down_all (ee_cons rfl rfl rfl (ee_cons rfl rfl (cInt.ok_psl _ rfl) (ee_cons rfl rfl rfl (ee_cons rfl rfl rfl ee_nil)))) he_nil rfl rfl rfl rfl))⟩
  · refine at_exit ?_
    refine tk_x ?_
    refine ll_x ?_
    refine bk_hit ?_
    refine at_seq ?_
    refine at_region ?_
    refine sxk 1 tabOK rfl ?_
    refine aops_nil ?_
    refine at_ret ?_
    obtain rfl := Option.some.inj hF
    refine ret_le rfl ?_
    exact (vle_refl _)

theorem s_l5Unique_ok (list : List Int) (q : Bool) (hF : s_l5Unique list = some q) : FC Try.prog 91 [.psl 0 1 (list.map (cInt.enc 0))] [] 3 (fun x _ => x = .bool q) := by
  refine FC.of_le ?_
  refine fc_body tabOK Try.func91 rfl Try.ntmps91 rfl rfl rfl ?_
  unfold s_l5Unique at hF
  refine at_seq ?_
  refine at_region ?_
  refine sxk 1 tabOK rfl ?_
  refine aops_nil ?_
  refine at_seq ?_
  refine at_seq ?_
  refine at_region ?_
  refine sxk 1 tabOK rfl ?_
  refine sv rfl (oc_len cInt tabOK rfl rfl rfl) rfl ?_
  refine sxk 1 tabOK rfl ?_
  refine aops_nil ?_
  refine at_block ?_
  refine cl_loop (σ := Int) (fun x2 => ⟨[(0, .psl 0 1 (list.map (cInt.enc 0))), (5, .psl 0 1 (list.map (cInt.enc 0))), (6, .int .i64 (list.length : Int)), (7, .int .i64 x2)], [], 3, 23, []⟩) (s_l5Unique_L1 list) LF 0 hF (le_down (down_all (ee_cons rfl rfl (cInt.ok_psl _ rfl) (ee_cons rfl rfl (cInt.ok_psl _ rfl) (ee_cons rfl rfl rfl (ee_cons rfl rfl rfl ee_nil)))) he_nil rfl rfl rfl rfl)) ?_
  rintro lk_ x2 hF
  refine at_eq (s' := ⟨[(0, .psl 0 1 (list.map (cInt.enc 0))), (5, .psl 0 1 (list.map (cInt.enc 0))), (6, .int .i64 (list.length : Int)), (7, .int .i64 x2)], [], 3, 23, []⟩) rfl ?_
  replace hF : s_l5Unique_L1b list (itr (s_l5Unique_L1 list) lk_) x2 = some q := hF
  unfold s_l5Unique_L1b at hF
  generalize itr (s_l5Unique_L1 list) lk_ = go3 at hF ⊢
  refine at_seq ?_
  refine at_region ?_
  refine sxk 1 tabOK rfl ?_
  refine aops_nil ?_
  refine at_seq ?_
  refine ct_if hF rfl (fun hc hF => ?_) (fun hc hF => ?_)
  · refine at_skip ?_
    refine at_seq ?_
    refine at_block ?_
    refine at_seq ?_
    refine at_region ?_
    refine sxk 1 tabOK rfl ?_
    obtain ⟨x4, hn_x4, hF⟩ := bnd_some hF
    refine sv rfl (oc_addr cInt hn_x4 tabOK rfl rfl rfl rfl) rfl ?_
    refine sxk 3 tabOK rfl ?_
    refine aops_nil ?_
    refine at_seq ?_
    refine at_region ?_
    refine sxk 1 tabOK rfl ?_
    obtain ⟨x5, hx5, hF⟩ := bnd_some hF
    refine call_eq (s_l1In_ok x4 0 99999 x5 hx5) rfl ((rlL_cons (rfl) (rlL_cons (rfl) (rlL_cons (rfl) rlL_nil)))) rfl rfl ?_
    refine sxk 2 tabOK rfl ?_
    refine ops_ifnb (g := 15) hF rfl (fun hc hF => ?_) (fun hc hF => ?_)
    · refine sxk 6 tabOK rfl ?_
      refine aops_nil ?_
      refine at_true rfl ?_
      refine at_seq ?_
      refine at_keep [] rfl ?_
      refine at_region ?_
      refine sxk 1 tabOK rfl ?_
      refine aops_nil ?_
      refine at_ret ?_
      refine bk_r ?_
      refine tk_r ?_
      refine ll_r ?_
      refine bk_r ?_
      refine tk_r ?_
      obtain rfl := Option.some.inj hF
      refine ret_le rfl ?_
      exact (vle_refl _)
    · refine sxk 2 tabOK rfl ?_
      obtain ⟨hb, hF⟩ := chk_some hF
      refine sv rfl (oc_psub_h cInt hb tabOK rfl rfl rfl rfl) rfl ?_
      refine sxk 1 tabOK rfl ?_
      obtain ⟨x6, hx6, hF⟩ := bnd_some hF
      refine call_eq (s_HasScope_ok (list.take x2.toNat) x4 x6 hx6) rfl ((rlL_cons (cInt.rl_psl (l := 0) (l' := 0) _ (list.take x2.toNat) rfl) (rlL_cons (rfl) rlL_nil))) rfl rfl ?_
      refine sxk 1 tabOK rfl ?_
      refine aops_nil ?_
      refine ct_b hF rfl (fun hc hF => ?_) (fun hc hF => ?_)
      · refine at_seq ?_
        refine at_keep [] rfl ?_
        refine at_region ?_
        refine sxk 1 tabOK rfl ?_
        refine aops_nil ?_
        refine at_ret ?_
        refine bk_r ?_
        refine tk_r ?_
        refine ll_r ?_
        refine bk_r ?_
        refine tk_r ?_
        obtain rfl := Option.some.inj hF
        refine ret_le rfl ?_
        exact (vle_refl _)
      · refine at_skip ?_
        refine bk_n ?_
        refine at_keep [0, 5, 6, 7, 16, 17, 18, 19, 20] rfl ?_
        refine at_region ?_
        obtain ⟨hb, hF⟩ := chk_some hF
        refine s_add tabOK rfl rfl rfl hb rfl ?_
        refine sxk 1 tabOK rfl ?_
        refine aops_nil ?_
        exact arr_loop ⟨(x2 + 1), hF, (le_down (down_all (ee_cons rfl rfl (cInt.ok_psl _ rfl) (ee_cons rfl rfl (cInt.ok_psl _ rfl) (ee_cons rfl rfl rfl (ee_cons rfl rfl rfl ee_nil)))) he_nil rfl rfl rfl rfl))⟩
  · refine at_exit ?_
    refine tk_x ?_
    refine ll_x ?_
    refine bk_hit ?_
    refine at_seq ?_
    refine at_region ?_
    refine sxk 1 tabOK rfl ?_
    refine aops_nil ?_
    refine at_ret ?_
    obtain rfl := Option.some.inj hF
    refine ret_le rfl ?_
    exact (vle_refl _)

theorem s_l7Name_ok (s : List UInt8) (q : Bool) (hF : s_l7Name s = some q) : FC Try.prog 90 [.str s] [] 3 (fun x _ => x = .bool q) := by
  refine FC.of_le ?_
  refine fc_body tabOK Try.func90 rfl Try.ntmps90 rfl rfl rfl ?_
  unfold s_l7Name at hF
  refine at_seq ?_
  refine at_region ?_
  refine sxk 1 tabOK rfl ?_
  refine aops_nil ?_
  refine at_seq ?_
  refine at_region ?_
  refine sxk 4 tabOK rfl ?_
  refine ops_if (g := 6) hF rfl (fun hc hF => ?_) (fun hc hF => ?_)
  · refine sxk 1 tabOK rfl ?_
    obtain ⟨x2, hx2, hF⟩ := bnd_some hF
    refine call_eq (s_IsSymbol_ok s x2 hx2) rfl ((rlL_cons (rfl) rlL_nil)) rfl rfl ?_
    refine sxk 2 tabOK rfl ?_
    refine aops_nil ?_
    refine at_ret ?_
    obtain rfl := Option.some.inj hF
    refine ret_le rfl ?_
    exact (vle_refl _)
  · refine sxk 4 tabOK rfl ?_
    refine aops_nil ?_
    refine at_ret ?_
    obtain rfl := Option.some.inj hF
    refine ret_le rfl ?_
    exact (vle_refl _)

end Go.Proofs.Ytiecdekmiabmkaa
