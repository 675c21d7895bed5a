/-
  Walks, made by wip/gen: A
-/
import Derived.Test.YtiecdekmiabmkaaGpA
import Derived.Test.YtiecdekmiabmkaaTab1
import Derived.Test.YtiecdekmiabmkaaGnK
set_option linter.unusedVariables false
set_option linter.unusedSimpArgs false
namespace Go.Proofs.Ytiecdekmiabmkaa
open Go.Abs
attribute [local irreducible] AT AOps FC DR DN
set_option maxRecDepth 10000
set_option maxHeartbeats 4000000

theorem i_EqualData_bok (i_EqualData : PDat → PDat → Option Bool) (h_i_EqualData : ∀ (a : PDat) (b : PDat) (q : Bool), i_EqualData a b = some q → FC Try.prog 65 [.agg (cDat.row 0 a), .agg (cDat.row 0 b)] [] 3 (fun x _ => x = .bool q)) (a : PDat) (b : PDat) (q : Bool) (hF : i_EqualData_b i_EqualData a b = some q) : FC Try.prog 65 [.agg (cDat.row 0 a), .agg (cDat.row 0 b)] [] 3 (fun x _ => x = .bool q) := by
  refine FC.of_le ?_
  refine fc_body tabOK Try.func65 rfl Try.ntmps65 rfl rfl rfl ?_
  unfold i_EqualData_b at hF
  refine at_seq ?_
  refine at_region ?_
  refine sxk 3 tabOK rfl ?_
  refine aops_nil ?_
  refine at_seq ?_
  refine at_seq ?_
  refine at_region ?_
  refine sxk 6 tabOK rfl ?_
  refine ops_ifn (g := 11) hF rfl (fun hc hF => ?_) (fun hc hF => ?_)
  · refine sxk 22 tabOK rfl ?_
    refine aops_nil ?_
    refine at_true rfl ?_
    refine at_seq ?_
    refine at_keep [] rfl ?_
    refine at_region ?_
    refine sxk 1 tabOK rfl ?_
    refine aops_nil ?_
    refine at_ret ?_
    refine tk_r ?_
    obtain rfl := Option.some.inj hF
    refine ret_le rfl ?_
    exact (vle_refl _)
  · refine sxk 7 tabOK rfl ?_
    refine ops_ifn (g := 18) hF rfl (fun hc hF => ?_) (fun hc hF => ?_)
    · refine sxk 15 tabOK rfl ?_
      refine aops_nil ?_
      refine at_true rfl ?_
      refine at_seq ?_
      refine at_keep [] rfl ?_
      refine at_region ?_
      refine sxk 1 tabOK rfl ?_
      refine aops_nil ?_
      refine at_ret ?_
      refine tk_r ?_
      obtain rfl := Option.some.inj hF
      refine ret_le rfl ?_
      exact (vle_refl _)
    · refine sxk 7 tabOK rfl ?_
      refine ops_ifn (g := 25) hF rfl (fun hc hF => ?_) (fun hc hF => ?_)
      · refine sxk 8 tabOK rfl ?_
        refine aops_nil ?_
        refine at_true rfl ?_
        refine at_seq ?_
        refine at_keep [] rfl ?_
        refine at_region ?_
        refine sxk 1 tabOK rfl ?_
        refine aops_nil ?_
        refine at_ret ?_
        refine tk_r ?_
        obtain rfl := Option.some.inj hF
        refine ret_le rfl ?_
        exact (vle_refl _)
      · refine sxk 2 tabOK rfl ?_
        refine sv rfl (oc_len cDat tabOK rfl rfl rfl) rfl ?_
        refine sxk 2 tabOK rfl ?_
        refine sv rfl (oc_len cDat tabOK rfl rfl rfl) rfl ?_
        refine sxk 2 tabOK rfl ?_
        refine aops_nil ?_
        refine ct_ifn hF rfl (fun hc hF => ?_) (fun hc hF => ?_)
        · refine at_seq ?_
          refine at_keep [] rfl ?_
          refine at_region ?_
          refine sxk 1 tabOK rfl ?_
          refine aops_nil ?_
          refine at_ret ?_
          refine tk_r ?_
          obtain rfl := Option.some.inj hF
          refine ret_le rfl ?_
          exact (vle_refl _)
        · refine at_skip ?_
          refine at_seq ?_
          refine at_seq ?_
          refine at_keep [2, 3] rfl ?_
          refine at_region ?_
          refine sxk 2 tabOK rfl ?_
          refine sv rfl (oc_len cDat tabOK rfl rfl rfl) rfl ?_
          refine sxk 1 tabOK rfl ?_
          refine aops_nil ?_
          refine at_block ?_
          refine cl_loop (σ := Int) (fun x4 => ⟨[(2, .ptr 3 1 0 0), (3, .ptr 4 1 0 0), (36, .int .i64 (a.items.length : Int)), (37, .int .i64 x4)], [(3, ⟨4, [cDat.row 0 a]⟩), (4, ⟨4, [cDat.row 0 b]⟩)], 5, 53, []⟩) (i_EqualData_L1 i_EqualData a b) LF 0 hF (le_down (down_all (ee_cons rfl rfl (Nat.le_of_ble_eq_true rfl) (ee_cons rfl rfl (Nat.le_of_ble_eq_true rfl) (ee_cons rfl rfl rfl (ee_cons rfl rfl rfl ee_nil)))) (he_cons rfl rfl rfl (row_one (cDat.row_ok _ rfl)) (he_cons rfl rfl rfl (row_one (cDat.row_ok _ rfl)) he_nil)) rfl rfl rfl rfl)) ?_
          rintro lk_ x4 hF
          refine at_eq (s' := ⟨[(2, .ptr 3 1 0 0), (3, .ptr 4 1 0 0), (36, .int .i64 (a.items.length : Int)), (37, .int .i64 x4)], [(3, ⟨4, [cDat.row 0 a]⟩), (4, ⟨4, [cDat.row 0 b]⟩)], 5, 53, []⟩) rfl ?_
          replace hF : i_EqualData_L1b i_EqualData a b (itr (i_EqualData_L1 i_EqualData a b) lk_) x4 = some q := hF
          unfold i_EqualData_L1b at hF
          generalize itr (i_EqualData_L1 i_EqualData a b) lk_ = go5 at hF ⊢
          refine at_seq ?_
          refine at_region ?_
          refine sxk 1 tabOK rfl ?_
          refine aops_nil ?_
          refine at_seq ?_
          refine ct_if hF rfl (fun hc hF => ?_) (fun hc hF => ?_)
          · refine at_skip ?_
            refine at_seq ?_
            refine at_block ?_
            refine at_seq ?_
            refine at_region ?_
            refine sxk 2 tabOK rfl ?_
            refine aops_nil ?_
            refine at_seq ?_
            refine at_drawnM (id := 6) 10 (by kernel_rfl) (by kernel_rfl) ?_
            refine nx tabOK rfl ?_
            refine nx tabOK rfl ?_
            refine nx tabOK rfl ?_
            obtain ⟨x6, hn_x6, hF⟩ := bnd_some hF
            refine nv rfl (oc_addr cDat hn_x6 tabOK rfl rfl rfl rfl) rfl ?_
            refine nx tabOK rfl ?_
            refine nx tabOK rfl ?_
            refine nx tabOK rfl ?_
            refine nx tabOK rfl ?_
            obtain ⟨x7, hn_x7, hF⟩ := bnd_some hF
            refine nv rfl (oc_addr cDat hn_x7 tabOK rfl rfl rfl rfl) rfl ?_
            refine nx tabOK rfl ?_
            refine dn_nil rfl ?_
            obtain ⟨x8, hx8, hF⟩ := bnd_some hF
            refine call_eq (h_i_EqualData x6 x7 x8 hx8) rfl ((rlL_cons (cDat.rl_agg (l := 0) (l' := 0) _ x6 rfl) (rlL_cons (cDat.rl_agg (l := 0) (l' := 0) _ x7 rfl) rlL_nil))) rfl rfl ?_
            refine sxk 1 tabOK rfl ?_
            refine aops_nil ?_
            refine ct_bn hF rfl (fun hc hF => ?_) (fun hc hF => ?_)
            · refine at_seq ?_
              refine at_keep [] rfl ?_
              refine at_region ?_
              refine sxk 1 tabOK rfl ?_
              refine aops_nil ?_
              refine at_ret ?_
              refine bk_r ?_
              refine tk_r ?_
              refine ll_r ?_
              refine bk_r ?_
              refine tk_r ?_
              obtain rfl := Option.some.inj hF
              refine ret_le rfl ?_
              exact (vle_refl _)
            · refine at_skip ?_
              refine bk_n ?_
              refine at_keep [2, 3, 36, 37] rfl ?_
              refine at_region ?_
              obtain ⟨hb, hF⟩ := chk_some hF
              refine s_add tabOK rfl rfl rfl hb rfl ?_
              refine sxk 1 tabOK rfl ?_
              refine aops_nil ?_
              exact arr_loop ⟨(x4 + 1), hF, (le_down (down_all (ee_cons rfl rfl (Nat.le_of_ble_eq_true rfl) (ee_cons rfl rfl (Nat.le_of_ble_eq_true rfl) (ee_cons rfl rfl rfl (ee_cons rfl rfl rfl ee_nil)))) (he_cons rfl rfl rfl (row_one (cDat.row_ok _ rfl)) (he_cons rfl rfl rfl (row_one (cDat.row_ok _ rfl)) he_nil)) rfl rfl rfl rfl))⟩
          · refine at_exit ?_
            refine tk_x ?_
            refine ll_x ?_
            refine bk_hit ?_
            refine at_seq ?_
            refine at_region ?_
            refine sxk 1 tabOK rfl ?_
            refine aops_nil ?_
            refine at_ret ?_
            obtain rfl := Option.some.inj hF
            refine ret_le rfl ?_
            exact (vle_refl _)

theorem i_EqualData_all (n : Nat) : (∀ (a : PDat) (b : PDat) (q : Bool), i_EqualData n a b = some q → FC Try.prog 65 [.agg (cDat.row 0 a), .agg (cDat.row 0 b)] [] 3 (fun x _ => x = .bool q)) := by
  induction n with
  | zero => exact fun _ _ q h => by cases h
  | succ n ih => exact fun a b q h => i_EqualData_bok (i_EqualData n) ih a b q h

theorem i_EqualData_ok (n : Nat) (a : PDat) (b : PDat) (q : Bool) (hF : i_EqualData n a b = some q) : FC Try.prog 65 [.agg (cDat.row 0 a), .agg (cDat.row 0 b)] [] 3 (fun x _ => x = .bool q) := (i_EqualData_all n) a b q hF

theorem i_isDigit_ok (b : Int) (q : Bool) (hF : i_isDigit b = some q) : FC Try.prog 122 [.int .u8 b] [] 3 (fun x _ => x = .bool q) := by
  refine FC.of_le ?_
  refine fc_body tabOK Try.func122 rfl Try.ntmps122 rfl rfl rfl ?_
  unfold i_isDigit at hF
  refine at_seq ?_
  refine at_region ?_
  refine sxk 1 tabOK rfl ?_
  refine aops_nil ?_
  refine at_seq ?_
  refine at_region ?_
  refine sxk 3 tabOK rfl ?_
  refine ops_if (g := 5) hF rfl (fun hc hF => ?_) (fun hc hF => ?_)
  · refine sxk 4 tabOK rfl ?_
    refine aops_nil ?_
    refine at_ret ?_
    obtain rfl := Option.some.inj hF
    refine ret_le rfl ?_
    exact (vle_refl _)
  · refine sxk 4 tabOK rfl ?_
    refine aops_nil ?_
    refine at_ret ?_
    obtain rfl := Option.some.inj hF
    refine ret_le rfl ?_
    exact (vle_refl _)

theorem i_symbolByte_ok (b : Int) (q : Bool) (hF : i_symbolByte b = some q) : FC Try.prog 123 [.int .u8 b] [] 3 (fun x _ => x = .bool q) := by
  refine FC.of_le ?_
  refine fc_body tabOK Try.func123 rfl Try.ntmps123 rfl rfl rfl ?_
  unfold i_symbolByte at hF
  refine at_seq ?_
  refine at_region ?_
  refine sxk 1 tabOK rfl ?_
  refine aops_nil ?_
  refine at_seq ?_
  refine at_seq ?_
  refine cl_midn (σ := Bool) (fun x2 => ⟨[(0, .int .u8 b), (16, .bool x2)], [], 3, 30, []⟩) (fun x2 => i_symbolByte_J1 b x2 = some q) ?_ ?_
  · refine at_region ?_
    refine sxk 3 tabOK rfl ?_
    refine ops_if (g := 5) hF rfl (fun hc hF => ?_) (fun hc hF => ?_)
    · refine sxk 4 tabOK rfl ?_
      refine ops_if (g := 9) hF rfl (fun hc hF => ?_) (fun hc hF => ?_)
      · refine sxk 7 tabOK rfl ?_
        refine aops_nil ?_
        exact arr_cut ⟨true, hF, (le_down (down_all (ee_cons rfl rfl rfl (ee_cons rfl rfl rfl ee_nil)) he_nil rfl rfl rfl rfl))⟩
      · refine sxk 3 tabOK rfl ?_
        refine ops_if (g := 12) hF rfl (fun hc hF => ?_) (fun hc hF => ?_)
        · refine sxk 4 tabOK rfl ?_
          refine aops_nil ?_
          exact arr_cut ⟨(decide (b ≤ 57)), hF, (le_down (down_all (ee_cons rfl rfl rfl (ee_cons rfl rfl rfl ee_nil)) he_nil rfl rfl rfl rfl))⟩
        · refine sxk 4 tabOK rfl ?_
          refine aops_nil ?_
          exact arr_cut ⟨false, hF, (le_down (down_all (ee_cons rfl rfl rfl (ee_cons rfl rfl rfl ee_nil)) he_nil rfl rfl rfl rfl))⟩
    · refine sxk 7 tabOK rfl ?_
      refine ops_if (g := 12) hF rfl (fun hc hF => ?_) (fun hc hF => ?_)
      · refine sxk 4 tabOK rfl ?_
        refine aops_nil ?_
        exact arr_cut ⟨(decide (b ≤ 57)), hF, (le_down (down_all (ee_cons rfl rfl rfl (ee_cons rfl rfl rfl ee_nil)) he_nil rfl rfl rfl rfl))⟩
      · refine sxk 4 tabOK rfl ?_
        refine aops_nil ?_
        exact arr_cut ⟨false, hF, (le_down (down_all (ee_cons rfl rfl rfl (ee_cons rfl rfl rfl ee_nil)) he_nil rfl rfl rfl rfl))⟩
  · rintro x2 hF
    refine at_eq (s' := ⟨[(0, .int .u8 b), (16, .bool x2)], [], 3, 30, []⟩) rfl ?_
    replace hF : i_symbolByte_J1 b x2 = some q := hF
    unfold i_symbolByte_J1 at hF
    refine ct_b hF rfl (fun hc hF => ?_) (fun hc hF => ?_)
    · refine at_seq ?_
      refine at_region ?_
      refine sxk 1 tabOK rfl ?_
      refine aops_nil ?_
      refine at_ret ?_
      refine tk_r ?_
      obtain rfl := Option.some.inj hF
      refine ret_le rfl ?_
      exact (vle_refl _)
    · refine at_skip ?_
      refine at_seq ?_
      refine at_seq ?_
      refine at_region ?_
      refine sxk 1 tabOK rfl ?_
      refine aops_nil ?_
      refine at_block ?_
      refine at_seq ?_
      refine at_seq ?_
      refine at_region ?_
      refine sxk 2 tabOK rfl ?_
      refine aops_nil ?_
      refine ct_if hF rfl (fun hc hF => ?_) (fun hc hF => ?_)
      · refine at_skip ?_
        refine at_true rfl ?_
        refine at_seq ?_
        refine at_region ?_
        refine sxk 1 tabOK rfl ?_
        refine aops_nil ?_
        refine at_ret ?_
        refine bk_r ?_
        refine tk_r ?_
        obtain rfl := Option.some.inj hF
        refine ret_le rfl ?_
        exact (vle_refl _)
      · refine at_seq ?_
        refine at_region ?_
        refine sxk 2 tabOK rfl ?_
        refine aops_nil ?_
        refine ct_if hF rfl (fun hc hF => ?_) (fun hc hF => ?_)
        · refine at_skip ?_
          refine at_true rfl ?_
          refine at_seq ?_
          refine at_region ?_
          refine sxk 1 tabOK rfl ?_
          refine aops_nil ?_
          refine at_ret ?_
          refine bk_r ?_
          refine tk_r ?_
          obtain rfl := Option.some.inj hF
          refine ret_le rfl ?_
          exact (vle_refl _)
        · refine at_seq ?_
          refine at_region ?_
          refine sxk 2 tabOK rfl ?_
          refine aops_nil ?_
          refine ct_if hF rfl (fun hc hF => ?_) (fun hc hF => ?_)
          · refine at_skip ?_
            refine at_true rfl ?_
            refine at_seq ?_
            refine at_keep [] rfl ?_
            refine at_region ?_
            refine sxk 1 tabOK rfl ?_
            refine aops_nil ?_
            refine at_ret ?_
            refine bk_r ?_
            refine tk_r ?_
            obtain rfl := Option.some.inj hF
            refine ret_le rfl ?_
            exact (vle_refl _)
          · refine at_seq ?_
            refine at_region ?_
            refine sxk 2 tabOK rfl ?_
            refine aops_nil ?_
            refine ct_if hF rfl (fun hc hF => ?_) (fun hc hF => ?_)
            · refine at_skip ?_
              refine at_true rfl ?_
              refine at_seq ?_
              refine at_keep [] rfl ?_
              refine at_region ?_
              refine sxk 1 tabOK rfl ?_
              refine aops_nil ?_
              refine at_ret ?_
              refine bk_r ?_
              refine tk_r ?_
              obtain rfl := Option.some.inj hF
              refine ret_le rfl ?_
              exact (vle_refl _)
            · refine at_seq ?_
              refine at_keep [17] rfl ?_
              refine at_region ?_
              refine sxk 2 tabOK rfl ?_
              refine aops_nil ?_
              refine ct_if hF rfl (fun hc hF => ?_) (fun hc hF => ?_)
              · refine at_skip ?_
                refine at_true rfl ?_
                refine at_seq ?_
                refine at_region ?_
                refine sxk 1 tabOK rfl ?_
                refine aops_nil ?_
                refine at_ret ?_
                refine bk_r ?_
                refine tk_r ?_
                obtain rfl := Option.some.inj hF
                refine ret_le rfl ?_
                exact (vle_refl _)
              · refine at_seq ?_
                refine at_region ?_
                refine sxk 2 tabOK rfl ?_
                refine aops_nil ?_
                refine ct_if hF rfl (fun hc hF => ?_) (fun hc hF => ?_)
                · refine at_skip ?_
                  refine at_true rfl ?_
                  refine at_seq ?_
                  refine at_region ?_
                  refine sxk 1 tabOK rfl ?_
                  refine aops_nil ?_
                  refine at_ret ?_
                  refine bk_r ?_
                  refine tk_r ?_
                  obtain rfl := Option.some.inj hF
                  refine ret_le rfl ?_
                  exact (vle_refl _)
                · refine at_seq ?_
                  refine at_region ?_
                  refine sxk 2 tabOK rfl ?_
                  refine aops_nil ?_
                  refine ct_if hF rfl (fun hc hF => ?_) (fun hc hF => ?_)
                  · refine at_skip ?_
                    refine at_true rfl ?_
                    refine at_seq ?_
                    refine at_region ?_
                    refine sxk 1 tabOK rfl ?_
                    refine aops_nil ?_
                    refine at_ret ?_
                    refine bk_r ?_
                    refine tk_r ?_
                    obtain rfl := Option.some.inj hF
                    refine ret_le rfl ?_
                    exact (vle_refl _)
                  · refine at_seq ?_
                    refine at_region ?_
                    refine sxk 2 tabOK rfl ?_
                    refine aops_nil ?_
                    refine ct_if hF rfl (fun hc hF => ?_) (fun hc hF => ?_)
                    · refine at_skip ?_
                      refine at_true rfl ?_
                      refine at_seq ?_
                      refine at_region ?_
                      refine sxk 1 tabOK rfl ?_
                      refine aops_nil ?_
                      refine at_ret ?_
                      refine bk_r ?_
                      refine tk_r ?_
                      obtain rfl := Option.some.inj hF
                      refine ret_le rfl ?_
                      exact (vle_refl _)
                    · refine at_seq ?_
                      refine at_region ?_
                      refine sxk 2 tabOK rfl ?_
                      refine aops_nil ?_
                      refine ct_if hF rfl (fun hc hF => ?_) (fun hc hF => ?_)
                      · refine at_skip ?_
                        refine at_true rfl ?_
                        refine at_seq ?_
                        refine at_keep [] rfl ?_
                        refine at_region ?_
                        refine sxk 1 tabOK rfl ?_
                        refine aops_nil ?_
                        refine at_ret ?_
                        refine bk_r ?_
                        refine tk_r ?_
                        obtain rfl := Option.some.inj hF
                        refine ret_le rfl ?_
                        exact (vle_refl _)
                      · refine at_seq ?_
                        refine at_region ?_
                        refine sxk 2 tabOK rfl ?_
                        refine aops_nil ?_
                        refine ct_if hF rfl (fun hc hF => ?_) (fun hc hF => ?_)
                        · refine at_skip ?_
                          refine at_true rfl ?_
                          refine at_seq ?_
                          refine at_keep [] rfl ?_
                          refine at_region ?_
                          refine sxk 1 tabOK rfl ?_
                          refine aops_nil ?_
                          refine at_ret ?_
                          refine bk_r ?_
                          refine tk_r ?_
                          obtain rfl := Option.some.inj hF
                          refine ret_le rfl ?_
                          exact (vle_refl _)
                        · refine at_keep [17] rfl ?_
                          refine at_region ?_
                          refine sxk 2 tabOK rfl ?_
                          refine aops_nil ?_
                          refine ct_if hF rfl (fun hc hF => ?_) (fun hc hF => ?_)
                          · refine at_seq ?_
                            refine at_region ?_
                            refine sxk 1 tabOK rfl ?_
                            refine aops_nil ?_
                            refine at_ret ?_
                            refine bk_r ?_
                            refine tk_r ?_
                            obtain rfl := Option.some.inj hF
                            refine ret_le rfl ?_
                            exact (vle_refl _)
                          · refine at_skip ?_
                            refine bk_n ?_
                            refine at_seq ?_
                            refine at_region ?_
                            refine sxk 1 tabOK rfl ?_
                            refine aops_nil ?_
                            refine at_ret ?_
                            obtain rfl := Option.some.inj hF
                            refine ret_le rfl ?_
                            exact (vle_refl _)

theorem i_IsSymbol_ok (s : List UInt8) (q : Bool) (hF : i_IsSymbol s = some q) : FC Try.prog 96 [.str s] [] 3 (fun x _ => x = .bool q) := by
  refine FC.of_le ?_
  refine fc_body tabOK Try.func96 rfl Try.ntmps96 rfl rfl rfl ?_
  unfold i_IsSymbol at hF
  refine at_seq ?_
  refine at_region ?_
  refine sxk 1 tabOK rfl ?_
  refine aops_nil ?_
  refine at_seq ?_
  refine at_seq ?_
  refine cl_midn (σ := Bool) (fun x2 => ⟨[(0, .str s), (31, .bool x2)], [], 3, 43, []⟩) (fun x2 => i_IsSymbol_J1 s x2 = some q) ?_ ?_
  · refine at_region ?_
    refine sxk 4 tabOK rfl ?_
    refine ops_if (g := 7) hF rfl (fun hc hF => ?_) (fun hc hF => ?_)
    · refine sxk 24 tabOK rfl ?_
      refine aops_nil ?_
      exact arr_cut ⟨true, hF, (le_down (down_all (ee_cons rfl rfl rfl (ee_cons rfl rfl rfl ee_nil)) he_nil rfl rfl rfl rfl))⟩
    · refine sxk 5 tabOK rfl ?_
      refine ops_if (g := 12) hF rfl (fun hc hF => ?_) (fun hc hF => ?_)
      · refine sxk 19 tabOK rfl ?_
        refine aops_nil ?_
        exact arr_cut ⟨true, hF, (le_down (down_all (ee_cons rfl rfl rfl (ee_cons rfl rfl rfl ee_nil)) he_nil rfl rfl rfl rfl))⟩
      · refine sxk 1 tabOK rfl ?_
        obtain ⟨x2, hn_x2, hF⟩ := bnd_some hF
        refine sv rfl (oc_byte hn_x2 tabOK rfl rfl rfl) rfl ?_
        obtain ⟨x3, hx3, hF⟩ := bnd_some hF
        refine call_eq (i_isDigit_ok (x2.toNat : Int) x3 hx3) rfl ((rlL_cons (rfl) rlL_nil)) rfl rfl ?_
        refine sxk 2 tabOK rfl ?_
        refine ops_ifb (g := 17) hF rfl (fun hc hF => ?_) (fun hc hF => ?_)
        · refine sxk 14 tabOK rfl ?_
          refine aops_nil ?_
          exact arr_cut ⟨true, hF, (le_down (down_all (ee_cons rfl rfl rfl (ee_cons rfl rfl rfl ee_nil)) he_nil rfl rfl rfl rfl))⟩
        · refine sxk 1 tabOK rfl ?_
          obtain ⟨x4, hn_x4, hF⟩ := bnd_some hF
          refine sv rfl (oc_byte hn_x4 tabOK rfl rfl rfl) rfl ?_
          refine sxk 2 tabOK rfl ?_
          refine ops_if (g := 21) hF rfl (fun hc hF => ?_) (fun hc hF => ?_)
          · refine sxk 5 tabOK rfl ?_
            refine ops_if (g := 26) hF rfl (fun hc hF => ?_) (fun hc hF => ?_)
            · refine sxk 1 tabOK rfl ?_
              obtain ⟨x5, hn_x5, hF⟩ := bnd_some hF
              refine sv rfl (oc_byte hn_x5 tabOK rfl rfl rfl) rfl ?_
              obtain ⟨x6, hx6, hF⟩ := bnd_some hF
              refine call_eq (i_isDigit_ok (x5.toNat : Int) x6 hx6) rfl ((rlL_cons (rfl) rlL_nil)) rfl rfl ?_
              refine sxk 2 tabOK rfl ?_
              refine aops_nil ?_
              exact arr_cut ⟨x6, hF, (le_down (down_all (ee_cons rfl rfl rfl (ee_cons rfl rfl rfl ee_nil)) he_nil rfl rfl rfl rfl))⟩
            · refine sxk 5 tabOK rfl ?_
              refine aops_nil ?_
              exact arr_cut ⟨false, hF, (le_down (down_all (ee_cons rfl rfl rfl (ee_cons rfl rfl rfl ee_nil)) he_nil rfl rfl rfl rfl))⟩
          · refine sxk 10 tabOK rfl ?_
            refine aops_nil ?_
            exact arr_cut ⟨false, hF, (le_down (down_all (ee_cons rfl rfl rfl (ee_cons rfl rfl rfl ee_nil)) he_nil rfl rfl rfl rfl))⟩
  · rintro x2 hF
    refine at_eq (s' := ⟨[(0, .str s), (31, .bool x2)], [], 3, 43, []⟩) rfl ?_
    replace hF : i_IsSymbol_J1 s x2 = some q := hF
    unfold i_IsSymbol_J1 at hF
    refine ct_b hF rfl (fun hc hF => ?_) (fun hc hF => ?_)
    · refine at_seq ?_
      refine at_region ?_
      refine sxk 1 tabOK rfl ?_
      refine aops_nil ?_
      refine at_ret ?_
      refine tk_r ?_
      obtain rfl := Option.some.inj hF
      refine ret_le rfl ?_
      exact (vle_refl _)
    · refine at_skip ?_
      refine at_seq ?_
      refine at_seq ?_
      refine at_region ?_
      refine sxk 1 tabOK rfl ?_
      refine aops_nil ?_
      refine at_block ?_
      refine cl_loop (σ := Int) (fun i3 => ⟨[(0, .str s), (3, .int .i64 i3)], [], 3, 43, []⟩) (i_IsSymbol_L2 s) LF 0 hF (le_down (down_all (ee_cons rfl rfl rfl (ee_cons rfl rfl rfl ee_nil)) he_nil rfl rfl rfl rfl)) ?_
      rintro lk_ i3 hF
      refine at_eq (s' := ⟨[(0, .str s), (3, .int .i64 i3)], [], 3, 43, []⟩) rfl ?_
      replace hF : i_IsSymbol_L2b s (itr (i_IsSymbol_L2 s) lk_) i3 = some q := hF
      unfold i_IsSymbol_L2b at hF
      generalize itr (i_IsSymbol_L2 s) lk_ = go4 at hF ⊢
      refine at_seq ?_
      refine at_seq ?_
      refine at_region ?_
      refine sxk 4 tabOK rfl ?_
      refine aops_nil ?_
      refine ct_if hF rfl (fun hc hF => ?_) (fun hc hF => ?_)
      · refine at_skip ?_
        refine at_seq ?_
        refine at_block ?_
        refine at_seq ?_
        refine at_region ?_
        refine sxk 2 tabOK rfl ?_
        obtain ⟨x5, hn_x5, hF⟩ := bnd_some hF
        refine sv rfl (oc_byte hn_x5 tabOK rfl rfl rfl) rfl ?_
        obtain ⟨x6, hx6, hF⟩ := bnd_some hF
        refine call_eq (i_symbolByte_ok (x5.toNat : Int) x6 hx6) rfl ((rlL_cons (rfl) rlL_nil)) rfl rfl ?_
        refine sxk 1 tabOK rfl ?_
        refine aops_nil ?_
        refine ct_bn hF rfl (fun hc hF => ?_) (fun hc hF => ?_)
        · refine at_seq ?_
          refine at_keep [] rfl ?_
          refine at_region ?_
          refine sxk 1 tabOK rfl ?_
          refine aops_nil ?_
          refine at_ret ?_
          refine bk_r ?_
          refine tk_r ?_
          refine ll_r ?_
          refine bk_r ?_
          refine tk_r ?_
          obtain rfl := Option.some.inj hF
          refine ret_le rfl ?_
          exact (vle_refl _)
        · refine at_skip ?_
          refine bk_n ?_
          refine at_keep [0, 3] rfl ?_
          refine at_region ?_
          refine sxk 1 tabOK rfl ?_
          obtain ⟨hb, hF⟩ := chk_some hF
          refine s_add tabOK rfl rfl rfl hb rfl ?_
          refine sxk 1 tabOK rfl ?_
          refine aops_nil ?_
          exact arr_loop ⟨(i3 + 1), hF, (le_down (down_all (ee_cons rfl rfl rfl (ee_cons rfl rfl rfl ee_nil)) he_nil rfl rfl rfl rfl))⟩
      · refine at_exit ?_
        refine tk_x ?_
        refine ll_x ?_
        refine bk_hit ?_
        refine at_seq ?_
        refine at_region ?_
        refine sxk 1 tabOK rfl ?_
        refine aops_nil ?_
        refine at_ret ?_
        obtain rfl := Option.some.inj hF
        refine ret_le rfl ?_
        exact (vle_refl _)

theorem i_stringText_ok (s : List UInt8) (q : Bool) (hF : i_stringText s = some q) : FC Try.prog 97 [.str s] [] 3 (fun x _ => x = .bool q) := by
  refine FC.of_le ?_
  refine fc_body tabOK Try.func97 rfl Try.ntmps97 rfl rfl rfl ?_
  unfold i_stringText at hF
  refine at_seq ?_
  refine at_region ?_
  refine sxk 1 tabOK rfl ?_
  refine aops_nil ?_
  refine at_seq ?_
  refine at_seq ?_
  refine at_region ?_
  refine sxk 3 tabOK rfl ?_
  refine aops_nil ?_
  refine ct_if hF rfl (fun hc hF => ?_) (fun hc hF => ?_)
  · refine at_seq ?_
    refine at_region ?_
    refine sxk 1 tabOK rfl ?_
    refine aops_nil ?_
    refine at_ret ?_
    refine tk_r ?_
    obtain rfl := Option.some.inj hF
    refine ret_le rfl ?_
    exact (vle_refl _)
  · refine at_skip ?_
    refine at_seq ?_
    refine at_seq ?_
    refine at_region ?_
    refine sxk 1 tabOK rfl ?_
    refine aops_nil ?_
    refine at_block ?_
    refine cl_loop (σ := Int) (fun i2 => ⟨[(0, .str s), (3, .int .i64 i2)], [], 3, 29, []⟩) (i_stringText_L1 s) LF 0 hF (le_down (down_all (ee_cons rfl rfl rfl (ee_cons rfl rfl rfl ee_nil)) he_nil rfl rfl rfl rfl)) ?_
    rintro lk_ i2 hF
    refine at_eq (s' := ⟨[(0, .str s), (3, .int .i64 i2)], [], 3, 29, []⟩) rfl ?_
    replace hF : i_stringText_L1b s (itr (i_stringText_L1 s) lk_) i2 = some q := hF
    unfold i_stringText_L1b at hF
    generalize itr (i_stringText_L1 s) lk_ = go3 at hF ⊢
    refine at_seq ?_
    refine at_seq ?_
    refine at_region ?_
    refine sxk 4 tabOK rfl ?_
    refine aops_nil ?_
    refine ct_if hF rfl (fun hc hF => ?_) (fun hc hF => ?_)
    · refine at_skip ?_
      refine at_seq ?_
      refine at_block ?_
      refine at_seq ?_
      refine at_region ?_
      refine sxk 2 tabOK rfl ?_
      obtain ⟨x4, hn_x4, hF⟩ := bnd_some hF
      refine sv rfl (oc_byte hn_x4 tabOK rfl rfl rfl) rfl ?_
      refine sxk 2 tabOK rfl ?_
      refine ops_if (g := 17) hF rfl (fun hc hF => ?_) (fun hc hF => ?_)
      · refine sxk 11 tabOK rfl ?_
        refine aops_nil ?_
        refine at_true rfl ?_
        refine at_seq ?_
        refine at_keep [] rfl ?_
        refine at_region ?_
        refine sxk 1 tabOK rfl ?_
        refine aops_nil ?_
        refine at_ret ?_
        refine bk_r ?_
        refine tk_r ?_
        refine ll_r ?_
        refine bk_r ?_
        refine tk_r ?_
        obtain rfl := Option.some.inj hF
        refine ret_le rfl ?_
        exact (vle_refl _)
      · refine sxk 2 tabOK rfl ?_
        obtain ⟨x5, hn_x5, hF⟩ := bnd_some hF
        refine sv rfl (oc_byte hn_x5 tabOK rfl rfl rfl) rfl ?_
        refine sxk 3 tabOK rfl ?_
        refine ops_if (g := 23) hF rfl (fun hc hF => ?_) (fun hc hF => ?_)
        · refine sxk 5 tabOK rfl ?_
          refine aops_nil ?_
          refine at_true rfl ?_
          refine at_seq ?_
          refine at_keep [] rfl ?_
          refine at_region ?_
          refine sxk 1 tabOK rfl ?_
          refine aops_nil ?_
          refine at_ret ?_
          refine bk_r ?_
          refine tk_r ?_
          refine ll_r ?_
          refine bk_r ?_
          refine tk_r ?_
          obtain rfl := Option.some.inj hF
          refine ret_le rfl ?_
          exact (vle_refl _)
        · refine sxk 2 tabOK rfl ?_
          obtain ⟨x6, hn_x6, hF⟩ := bnd_some hF
          refine sv rfl (oc_byte hn_x6 tabOK rfl rfl rfl) rfl ?_
          refine sxk 2 tabOK rfl ?_
          refine aops_nil ?_
          refine ct_if hF rfl (fun hc hF => ?_) (fun hc hF => ?_)
          · refine at_seq ?_
            refine at_keep [] rfl ?_
            refine at_region ?_
            refine sxk 1 tabOK rfl ?_
            refine aops_nil ?_
            refine at_ret ?_
            refine bk_r ?_
            refine tk_r ?_
            refine ll_r ?_
            refine bk_r ?_
            refine tk_r ?_
            obtain rfl := Option.some.inj hF
            refine ret_le rfl ?_
            exact (vle_refl _)
          · refine at_skip ?_
            refine bk_n ?_
            refine at_keep [0, 3, 18, 19, 20, 21, 24, 25, 26, 27] rfl ?_
            refine at_region ?_
            refine sxk 1 tabOK rfl ?_
            obtain ⟨hb, hF⟩ := chk_some hF
            refine s_add tabOK rfl rfl rfl hb rfl ?_
            refine sxk 1 tabOK rfl ?_
            refine aops_nil ?_
            exact arr_loop ⟨(i2 + 1), hF, (le_down (down_all (ee_cons rfl rfl rfl (ee_cons rfl rfl rfl ee_nil)) he_nil rfl rfl rfl rfl))⟩
    · refine at_exit ?_
      refine tk_x ?_
      refine ll_x ?_
      refine bk_hit ?_
      refine at_seq ?_
      refine at_region ?_
      refine sxk 1 tabOK rfl ?_
      refine aops_nil ?_
      refine at_ret ?_
      obtain rfl := Option.some.inj hF
      refine ret_le rfl ?_
      exact (vle_refl _)

theorem i_rightNode_ok (kind : Int) (number : Int) (text : List UInt8) (items : Int) (q : Bool) (hF : i_rightNode kind number text items = some q) : FC Try.prog 130 [.int .i64 kind, .int .i64 number, .str text, .int .i64 items] [] 3 (fun x _ => x = .bool q) := by
  refine FC.of_le ?_
  refine fc_body tabOK Try.func130 rfl Try.ntmps130 rfl rfl rfl ?_
  unfold i_rightNode at hF
  refine at_seq ?_
  refine at_region ?_
  refine sxk 1 tabOK rfl ?_
  refine aops_nil ?_
  refine at_seq ?_
  refine at_seq ?_
  refine at_region ?_
  refine sxk 1 tabOK rfl ?_
  refine aops_nil ?_
  refine at_block ?_
  refine at_seq ?_
  refine at_region ?_
  refine sxk 2 tabOK rfl ?_
  refine aops_nil ?_
  refine ct_if hF rfl (fun hc hF => ?_) (fun hc hF => ?_)
  · refine at_seq ?_
    refine at_region ?_
    refine sxk 3 tabOK rfl ?_
    refine ops_if (g := 14) hF rfl (fun hc hF => ?_) (fun hc hF => ?_)
    · refine sxk 4 tabOK rfl ?_
      refine aops_nil ?_
      refine at_ret ?_
      refine bk_r ?_
      refine tk_r ?_
      obtain rfl := Option.some.inj hF
      refine ret_le rfl ?_
      exact (vle_refl _)
    · refine sxk 4 tabOK rfl ?_
      refine aops_nil ?_
      refine at_ret ?_
      refine bk_r ?_
      refine tk_r ?_
      obtain rfl := Option.some.inj hF
      refine ret_le rfl ?_
      exact (vle_refl _)
  · refine at_seq ?_
    refine at_region ?_
    refine sxk 2 tabOK rfl ?_
    refine aops_nil ?_
    refine ct_if hF rfl (fun hc hF => ?_) (fun hc hF => ?_)
    · refine at_seq ?_
      refine at_keep [1, 2, 3] rfl ?_
      refine at_region ?_
      refine sxk 3 tabOK rfl ?_
      refine ops_if (g := 22) hF rfl (fun hc hF => ?_) (fun hc hF => ?_)
      · refine sxk 4 tabOK rfl ?_
        refine ops_if (g := 26) hF rfl (fun hc hF => ?_) (fun hc hF => ?_)
        · refine sxk 1 tabOK rfl ?_
          obtain ⟨x5, hx5, hF⟩ := bnd_some hF
          refine call_eq (i_IsSymbol_ok text x5 hx5) rfl ((rlL_cons (rfl) rlL_nil)) rfl rfl ?_
          refine sxk 2 tabOK rfl ?_
          refine aops_nil ?_
          refine at_ret ?_
          refine bk_r ?_
          refine tk_r ?_
          obtain rfl := Option.some.inj hF
          refine ret_le rfl ?_
          exact (vle_refl _)
        · refine sxk 4 tabOK rfl ?_
          refine aops_nil ?_
          refine at_ret ?_
          refine bk_r ?_
          refine tk_r ?_
          obtain rfl := Option.some.inj hF
          refine ret_le rfl ?_
          exact (vle_refl _)
      · refine sxk 8 tabOK rfl ?_
        refine aops_nil ?_
        refine at_ret ?_
        refine bk_r ?_
        refine tk_r ?_
        obtain rfl := Option.some.inj hF
        refine ret_le rfl ?_
        exact (vle_refl _)
    · refine at_seq ?_
      refine at_region ?_
      refine sxk 2 tabOK rfl ?_
      refine aops_nil ?_
      refine ct_if hF rfl (fun hc hF => ?_) (fun hc hF => ?_)
      · refine at_seq ?_
        refine at_keep [1, 2, 3] rfl ?_
        refine at_region ?_
        refine sxk 3 tabOK rfl ?_
        refine ops_if (g := 34) hF rfl (fun hc hF => ?_) (fun hc hF => ?_)
        · refine sxk 4 tabOK rfl ?_
          refine ops_if (g := 38) hF rfl (fun hc hF => ?_) (fun hc hF => ?_)
          · refine sxk 4 tabOK rfl ?_
            refine ops_if (g := 42) hF rfl (fun hc hF => ?_) (fun hc hF => ?_)
            · refine sxk 4 tabOK rfl ?_
              refine aops_nil ?_
              refine at_ret ?_
              refine bk_r ?_
              refine tk_r ?_
              obtain rfl := Option.some.inj hF
              refine ret_le rfl ?_
              exact (vle_refl _)
            · refine sxk 4 tabOK rfl ?_
              refine aops_nil ?_
              refine at_ret ?_
              refine bk_r ?_
              refine tk_r ?_
              obtain rfl := Option.some.inj hF
              refine ret_le rfl ?_
              exact (vle_refl _)
          · refine sxk 8 tabOK rfl ?_
            refine aops_nil ?_
            refine at_ret ?_
            refine bk_r ?_
            refine tk_r ?_
            obtain rfl := Option.some.inj hF
            refine ret_le rfl ?_
            exact (vle_refl _)
        · refine sxk 12 tabOK rfl ?_
          refine aops_nil ?_
          refine at_ret ?_
          refine bk_r ?_
          refine tk_r ?_
          obtain rfl := Option.some.inj hF
          refine ret_le rfl ?_
          exact (vle_refl _)
      · refine at_seq ?_
        refine at_keep [1, 2, 3, 9] rfl ?_
        refine at_region ?_
        refine sxk 2 tabOK rfl ?_
        refine aops_nil ?_
        refine ct_if hF rfl (fun hc hF => ?_) (fun hc hF => ?_)
        · refine at_seq ?_
          refine at_region ?_
          refine sxk 3 tabOK rfl ?_
          refine ops_if (g := 50) hF rfl (fun hc hF => ?_) (fun hc hF => ?_)
          · refine sxk 8 tabOK rfl ?_
            refine ops_if (g := 58) hF rfl (fun hc hF => ?_) (fun hc hF => ?_)
            · refine sxk 4 tabOK rfl ?_
              refine aops_nil ?_
              refine at_ret ?_
              refine bk_r ?_
              refine tk_r ?_
              obtain rfl := Option.some.inj hF
              refine ret_le rfl ?_
              exact (vle_refl _)
            · refine sxk 4 tabOK rfl ?_
              refine aops_nil ?_
              refine at_ret ?_
              refine bk_r ?_
              refine tk_r ?_
              obtain rfl := Option.some.inj hF
              refine ret_le rfl ?_
              exact (vle_refl _)
          · refine sxk 4 tabOK rfl ?_
            refine ops_if (g := 54) hF rfl (fun hc hF => ?_) (fun hc hF => ?_)
            · refine sxk 4 tabOK rfl ?_
              refine ops_if (g := 58) hF rfl (fun hc hF => ?_) (fun hc hF => ?_)
              · refine sxk 4 tabOK rfl ?_
                refine aops_nil ?_
                refine at_ret ?_
                refine bk_r ?_
                refine tk_r ?_
                obtain rfl := Option.some.inj hF
                refine ret_le rfl ?_
                exact (vle_refl _)
              · refine sxk 4 tabOK rfl ?_
                refine aops_nil ?_
                refine at_ret ?_
                refine bk_r ?_
                refine tk_r ?_
                obtain rfl := Option.some.inj hF
                refine ret_le rfl ?_
                exact (vle_refl _)
            · refine sxk 8 tabOK rfl ?_
              refine aops_nil ?_
              refine at_ret ?_
              refine bk_r ?_
              refine tk_r ?_
              obtain rfl := Option.some.inj hF
              refine ret_le rfl ?_
              exact (vle_refl _)
        · refine at_seq ?_
          refine at_region ?_
          refine sxk 2 tabOK rfl ?_
          refine aops_nil ?_
          refine ct_if hF rfl (fun hc hF => ?_) (fun hc hF => ?_)
          · refine at_seq ?_
            refine at_region ?_
            refine sxk 3 tabOK rfl ?_
            refine ops_if (g := 66) hF rfl (fun hc hF => ?_) (fun hc hF => ?_)
            · refine sxk 4 tabOK rfl ?_
              refine ops_if (g := 70) hF rfl (fun hc hF => ?_) (fun hc hF => ?_)
              · refine sxk 1 tabOK rfl ?_
                obtain ⟨x5, hx5, hF⟩ := bnd_some hF
                refine call_eq (i_stringText_ok text x5 hx5) rfl ((rlL_cons (rfl) rlL_nil)) rfl rfl ?_
                refine sxk 2 tabOK rfl ?_
                refine aops_nil ?_
                refine at_ret ?_
                refine bk_r ?_
                refine tk_r ?_
                obtain rfl := Option.some.inj hF
                refine ret_le rfl ?_
                exact (vle_refl _)
              · refine sxk 4 tabOK rfl ?_
                refine aops_nil ?_
                refine at_ret ?_
                refine bk_r ?_
                refine tk_r ?_
                obtain rfl := Option.some.inj hF
                refine ret_le rfl ?_
                exact (vle_refl _)
            · refine sxk 8 tabOK rfl ?_
              refine aops_nil ?_
              refine at_ret ?_
              refine bk_r ?_
              refine tk_r ?_
              obtain rfl := Option.some.inj hF
              refine ret_le rfl ?_
              exact (vle_refl _)
          · refine at_skip ?_
            refine bk_n ?_
            refine at_seq ?_
            refine at_keep [] rfl ?_
            refine at_region ?_
            refine sxk 1 tabOK rfl ?_
            refine aops_nil ?_
            refine at_ret ?_
            obtain rfl := Option.some.inj hF
            refine ret_le rfl ?_
            exact (vle_refl _)

theorem i_measure_bok (i_measure : PDat → Int → Int → Option (Bool × Int)) (h_i_measure : ∀ (d : PDat) (deep : Int) (nodes : Int) (q : Bool × Int), i_measure d deep nodes = some q → FC Try.prog 112 [.agg (cDat.row 0 d), .int .i64 deep, .ptr 0 1 0 0] [(0, ⟨1, [cInt.row 1 nodes]⟩)] 3 (fun x h2 => x = .bool q.1 ∧ hget h2 0 = some ⟨1, [cInt.row 1 q.2]⟩)) (d : PDat) (deep : Int) (nodes : Int) (q : Bool × Int) (hF : i_measure_b i_measure d deep nodes = some q) : FC Try.prog 112 [.agg (cDat.row 0 d), .int .i64 deep, .ptr 0 1 0 0] [(0, ⟨1, [cInt.row 1 nodes]⟩)] 3 (fun x h2 => x = .bool q.1 ∧ hget h2 0 = some ⟨1, [cInt.row 1 q.2]⟩) := by
  refine FC.of_le_lent ?_
  refine fc_body tabOK Try.func112 rfl Try.ntmps112 rfl rfl rfl ?_
  unfold i_measure_b at hF
  refine at_seq ?_
  refine at_region ?_
  refine sxk 2 tabOK rfl ?_
  refine aops_nil ?_
  refine at_seq ?_
  refine at_region ?_
  refine sxk 3 tabOK rfl ?_
  obtain ⟨hb, hF⟩ := chk_some hF
  refine s_add tabOK rfl rfl rfl hb rfl ?_
  refine sxk 2 tabOK rfl ?_
  refine aops_nil ?_
  refine at_seq ?_
  refine at_seq ?_
  refine at_keep [1, 2, 3] rfl ?_
  refine at_region ?_
  refine sxk 3 tabOK rfl ?_
  refine ops_if (g := 16) hF rfl (fun hc hF => ?_) (fun hc hF => ?_)
  · refine sxk 18 tabOK rfl ?_
    refine aops_nil ?_
    refine at_true rfl ?_
    refine at_seq ?_
    refine at_keep [] rfl ?_
    refine at_region ?_
    refine sxk 1 tabOK rfl ?_
    refine aops_nil ?_
    refine at_ret ?_
    refine tk_r ?_
    obtain rfl := Option.some.inj hF
    exact ret_lent rfl ((vle_refl _)) rfl
  · refine sxk 6 tabOK rfl ?_
    refine ops_if (g := 22) hF rfl (fun hc hF => ?_) (fun hc hF => ?_)
    · refine sxk 12 tabOK rfl ?_
      refine aops_nil ?_
      refine at_true rfl ?_
      refine at_seq ?_
      refine at_keep [] rfl ?_
      refine at_region ?_
      refine sxk 1 tabOK rfl ?_
      refine aops_nil ?_
      refine at_ret ?_
      refine tk_r ?_
      obtain rfl := Option.some.inj hF
      exact ret_lent rfl ((vle_refl _)) rfl
    · refine sxk 8 tabOK rfl ?_
      refine sv rfl (oc_len cDat tabOK rfl rfl rfl) rfl ?_
      obtain ⟨x5, hx5, hF⟩ := bnd_some hF
      refine call_eq (i_rightNode_ok d.kind d.number d.text (d.items.length : Int) x5 hx5) rfl ((rlL_cons (rfl) (rlL_cons (rfl) (rlL_cons (rfl) (rlL_cons (rfl) rlL_nil))))) rfl rfl ?_
      refine sxk 2 tabOK rfl ?_
      refine aops_nil ?_
      refine ct_bn hF rfl (fun hc hF => ?_) (fun hc hF => ?_)
      · refine at_seq ?_
        refine at_keep [] rfl ?_
        refine at_region ?_
        refine sxk 1 tabOK rfl ?_
        refine aops_nil ?_
        refine at_ret ?_
        refine tk_r ?_
        obtain rfl := Option.some.inj hF
        exact ret_lent rfl ((vle_refl _)) rfl
      · refine at_skip ?_
        refine at_seq ?_
        refine at_seq ?_
        refine at_keep [1, 2, 3] rfl ?_
        refine at_region ?_
        refine sxk 2 tabOK rfl ?_
        refine sv rfl (oc_len cDat tabOK rfl rfl rfl) rfl ?_
        refine sxk 1 tabOK rfl ?_
        refine aops_nil ?_
        refine at_block ?_
        refine cl_loop (σ := Int × Int) (fun v => match v with | (x6, nodes7) => ⟨[(1, .int .i64 deep), (2, .ptr 0 1 0 0), (36, .psl 0 4 (d.items.map (cDat.enc 0))), (37, .int .i64 (d.items.length : Int)), (38, .int .i64 x6)], [(0, ⟨1, [[.int .i64 nodes7]]⟩)], 4, 49, []⟩) (i_measure_L1 i_measure d deep) LF (0, (nodes + 1)) hF (le_down (down_all (ee_cons rfl rfl rfl (ee_cons rfl rfl (Nat.le_of_ble_eq_true rfl) (ee_cons rfl rfl (cDat.ok_psl _ rfl) (ee_cons rfl rfl rfl (ee_cons rfl rfl rfl ee_nil))))) (he_cons rfl rfl rfl (row_one ⟨rfl, trivial⟩) he_nil) rfl rfl rfl rfl)) ?_
        rintro lk_ ⟨x6, nodes7⟩ hF
        refine at_eq (s' := ⟨[(1, .int .i64 deep), (2, .ptr 0 1 0 0), (36, .psl 0 4 (d.items.map (cDat.enc 0))), (37, .int .i64 (d.items.length : Int)), (38, .int .i64 x6)], [(0, ⟨1, [[.int .i64 nodes7]]⟩)], 4, 49, []⟩) rfl ?_
        replace hF : i_measure_L1b i_measure d deep (itr (i_measure_L1 i_measure d deep) lk_) x6 nodes7 = some q := hF
        unfold i_measure_L1b at hF
        generalize itr (i_measure_L1 i_measure d deep) lk_ = go8 at hF ⊢
        refine at_seq ?_
        refine at_region ?_
        refine sxk 1 tabOK rfl ?_
        refine aops_nil ?_
        refine at_seq ?_
        refine ct_if hF rfl (fun hc hF => ?_) (fun hc hF => ?_)
        · refine at_skip ?_
          refine at_seq ?_
          refine at_block ?_
          refine at_seq ?_
          refine at_region ?_
          obtain ⟨x9, hn_x9, hF⟩ := bnd_some hF
          refine sv rfl (oc_addr cDat hn_x9 tabOK rfl rfl rfl rfl) rfl ?_
          refine sxk 3 tabOK rfl ?_
          refine aops_nil ?_
          refine at_seq ?_
          refine at_region ?_
          refine sxk 2 tabOK rfl ?_
          obtain ⟨hb, hF⟩ := chk_some hF
          refine s_add tabOK rfl rfl rfl hb rfl ?_
          refine sxk 1 tabOK rfl ?_
          obtain ⟨x10, hx10, hF⟩ := bnd_some hF
          refine call_lend1 0 (h_i_measure x9 (deep + 1) nodes7 x10 hx10) rfl (rnL_cons (rn_of_rl _ (cDat.rl_agg (l := 0) (l' := 0) _ x9 rfl)) (rnL_cons rfl (rnL_cons rfl rnL_nil))) rfl rfl rfl rfl rfl ?_
          refine sxk 1 tabOK rfl ?_
          refine aops_nil ?_
          refine ct_bn hF rfl (fun hc hF => ?_) (fun hc hF => ?_)
          · refine at_seq ?_
            refine at_keep [] rfl ?_
            refine at_region ?_
            refine sxk 1 tabOK rfl ?_
            refine aops_nil ?_
            refine at_ret ?_
            refine bk_r ?_
            refine tk_r ?_
            refine ll_r ?_
            refine bk_r ?_
            refine tk_r ?_
            obtain rfl := Option.some.inj hF
            exact ret_lent rfl ((vle_refl _)) rfl
          · refine at_skip ?_
            refine bk_n ?_
            refine at_keep [1, 2, 36, 37, 38] rfl ?_
            refine at_region ?_
            obtain ⟨hb, hF⟩ := chk_some hF
            refine s_add tabOK rfl rfl rfl hb rfl ?_
            refine sxk 1 tabOK rfl ?_
            refine aops_nil ?_
            exact arr_loop ⟨((x6 + 1), x10.2), hF, (le_down (down_all (ee_cons rfl rfl rfl (ee_cons rfl rfl (Nat.le_of_ble_eq_true rfl) (ee_cons rfl rfl (cDat.ok_psl _ rfl) (ee_cons rfl rfl rfl (ee_cons rfl rfl rfl ee_nil))))) (he_cons rfl rfl rfl (row_one ⟨rfl, trivial⟩) he_nil) rfl rfl rfl rfl))⟩
        · refine at_exit ?_
          refine tk_x ?_
          refine ll_x ?_
          refine bk_hit ?_
          refine at_seq ?_
          refine at_region ?_
          refine sxk 1 tabOK rfl ?_
          refine aops_nil ?_
          refine at_ret ?_
          obtain rfl := Option.some.inj hF
          exact ret_lent rfl ((vle_refl _)) rfl

theorem i_measure_all (n : Nat) : (∀ (d : PDat) (deep : Int) (nodes : Int) (q : Bool × Int), i_measure n d deep nodes = some q → FC Try.prog 112 [.agg (cDat.row 0 d), .int .i64 deep, .ptr 0 1 0 0] [(0, ⟨1, [cInt.row 1 nodes]⟩)] 3 (fun x h2 => x = .bool q.1 ∧ hget h2 0 = some ⟨1, [cInt.row 1 q.2]⟩)) := by
  induction n with
  | zero => exact fun _ _ _ q h => by cases h
  | succ n ih => exact fun d deep nodes q h => i_measure_bok (i_measure n) ih d deep nodes q h

theorem i_measure_ok (n : Nat) (d : PDat) (deep : Int) (nodes : Int) (q : Bool × Int) (hF : i_measure n d deep nodes = some q) : FC Try.prog 112 [.agg (cDat.row 0 d), .int .i64 deep, .ptr 0 1 0 0] [(0, ⟨1, [cInt.row 1 nodes]⟩)] 3 (fun x h2 => x = .bool q.1 ∧ hget h2 0 = some ⟨1, [cInt.row 1 q.2]⟩) := (i_measure_all n) d deep nodes q hF

theorem i_IsDatum_ok (d : PDat) (q : Bool) (hF : i_IsDatum d = some q) : FC Try.prog 74 [.agg (cDat.row 0 d)] [] 3 (fun x _ => x = .bool q) := by
  refine FC.of_le ?_
  refine fc_body tabOK Try.func74 rfl Try.ntmps74 rfl rfl rfl ?_
  unfold i_IsDatum at hF
  refine at_seq ?_
  refine at_region ?_
  refine sxk 2 tabOK rfl ?_
  refine aops_nil ?_
  refine at_seq ?_
  refine at_region ?_
  refine sxk 2 tabOK rfl ?_
  refine aops_nil ?_
  refine at_seq ?_
  refine at_region ?_
  refine sxk 1 tabOK rfl ?_
  obtain ⟨x2, hx2, hF⟩ := bnd_some hF
  refine call_lend1 4 (i_measure_ok RF d 1 0 x2 hx2) rfl (rnL_cons (rn_of_rl _ (cDat.rl_agg (l := 0) (l' := 0) _ d rfl)) (rnL_cons rfl (rnL_cons rfl rnL_nil))) rfl rfl rfl rfl rfl ?_
  refine sxk 1 tabOK rfl ?_
  refine aops_nil ?_
  refine at_ret ?_
  obtain rfl := Option.some.inj hF
  refine ret_le rfl ?_
  exact (vle_refl _)

theorem i_PrimitiveNames_ok (q : List (List UInt8)) (hF : i_PrimitiveNames = some q) : FC Try.prog 95 [] [] 3 (fun x _ => x = .psl 1 1 (q.map (cStr.enc 1))) := by
  refine FC.of_le ?_
  refine fc_body tabOK Try.func95 rfl Try.ntmps95 rfl rfl rfl ?_
  unfold i_PrimitiveNames at hF
  refine at_seq ?_
  refine at_region ?_
  refine sxk 1 tabOK rfl ?_
  refine aops_nil ?_
  refine at_seq ?_
  refine at_region ?_
  refine sc_slit cStr (l := 0) ([([43] : List UInt8), ([45] : List UInt8), ([42] : List UInt8), ([61] : List UInt8), ([60] : List UInt8), ([99, 111, 110, 115] : List UInt8), ([99, 97, 114] : List UInt8), ([99, 100, 114] : List UInt8), ([110, 117, 108, 108, 63] : List UInt8), ([112, 97, 105, 114, 63] : List UInt8), ([110, 117, 109, 98, 101, 114, 63] : List UInt8), ([101, 113, 63] : List UInt8), ([110, 111, 116] : List UInt8), ([100, 105, 115, 112, 108, 97, 121] : List UInt8)] : List (List UInt8)) tabOK rfl rfl rfl rfl rfl rfl rfl ?_
  refine sxk 1 tabOK rfl ?_
  refine aops_nil ?_
  refine at_le (le_freeze 0 rfl rfl (by simp) rfl) ?_
  refine at_ret ?_
  obtain rfl := Option.some.inj hF
  refine ret_le rfl ?_
  exact (vle_refl _)

theorem i_effect_ok (m : PImage) (x_1 : PInstr) (q : Int × Int) (hF : i_effect m x_1 = some q) : FC Try.prog 119 [.agg (cImage.row 0 m), .agg (cInstr.row 0 x_1)] [] 3 (fun x _ => x = .tup [.int .i64 q.1, .int .i64 q.2]) := by
  refine FC.of_le ?_
  refine fc_body tabOK Try.func119 rfl Try.ntmps119 rfl rfl rfl ?_
  unfold i_effect at hF
  refine at_seq ?_
  refine at_region ?_
  refine sxk 4 tabOK rfl ?_
  refine aops_nil ?_
  refine at_seq ?_
  refine at_seq ?_
  refine at_region ?_
  refine sxk 2 tabOK rfl ?_
  refine aops_nil ?_
  refine at_block ?_
  refine at_seq ?_
  refine at_seq ?_
  refine at_region ?_
  refine sxk 2 tabOK rfl ?_
  refine aops_nil ?_
  refine ct_if hF rfl (fun hc hF => ?_) (fun hc hF => ?_)
  · refine at_skip ?_
    refine at_true rfl ?_
    refine at_seq ?_
    refine at_keep [] rfl ?_
    refine at_region ?_
    refine sxk 2 tabOK rfl ?_
    refine aops_nil ?_
    refine at_ret ?_
    refine bk_r ?_
    refine tk_r ?_
    obtain rfl := Option.some.inj hF
    refine ret_le rfl ?_
    exact (vle_tup (.cons (vle_refl _) (.cons (vle_refl _) .nil)))
  · refine at_seq ?_
    refine at_keep [2, 3, 7] rfl ?_
    refine at_region ?_
    refine sxk 2 tabOK rfl ?_
    refine aops_nil ?_
    refine ct_if hF rfl (fun hc hF => ?_) (fun hc hF => ?_)
    · refine at_skip ?_
      refine at_true rfl ?_
      refine at_seq ?_
      refine at_region ?_
      refine sxk 2 tabOK rfl ?_
      refine aops_nil ?_
      refine at_ret ?_
      refine bk_r ?_
      refine tk_r ?_
      obtain rfl := Option.some.inj hF
      refine ret_le rfl ?_
      exact (vle_tup (.cons (vle_refl _) (.cons (vle_refl _) .nil)))
    · refine at_seq ?_
      refine at_region ?_
      refine sxk 2 tabOK rfl ?_
      refine aops_nil ?_
      refine ct_if hF rfl (fun hc hF => ?_) (fun hc hF => ?_)
      · refine at_skip ?_
        refine at_true rfl ?_
        refine at_seq ?_
        refine at_region ?_
        refine sxk 2 tabOK rfl ?_
        refine aops_nil ?_
        refine at_ret ?_
        refine bk_r ?_
        refine tk_r ?_
        obtain rfl := Option.some.inj hF
        refine ret_le rfl ?_
        exact (vle_tup (.cons (vle_refl _) (.cons (vle_refl _) .nil)))
      · refine at_seq ?_
        refine at_region ?_
        refine sxk 2 tabOK rfl ?_
        refine aops_nil ?_
        refine ct_if hF rfl (fun hc hF => ?_) (fun hc hF => ?_)
        · refine at_skip ?_
          refine at_true rfl ?_
          refine at_seq ?_
          refine at_keep [] rfl ?_
          refine at_region ?_
          refine sxk 2 tabOK rfl ?_
          refine aops_nil ?_
          refine at_ret ?_
          refine bk_r ?_
          refine tk_r ?_
          obtain rfl := Option.some.inj hF
          refine ret_le rfl ?_
          exact (vle_tup (.cons (vle_refl _) (.cons (vle_refl _) .nil)))
        · refine at_seq ?_
          refine at_region ?_
          refine sxk 2 tabOK rfl ?_
          refine aops_nil ?_
          refine ct_if hF rfl (fun hc hF => ?_) (fun hc hF => ?_)
          · refine at_skip ?_
            refine at_true rfl ?_
            refine at_seq ?_
            refine at_keep [] rfl ?_
            refine at_region ?_
            refine sxk 2 tabOK rfl ?_
            refine aops_nil ?_
            refine at_ret ?_
            refine bk_r ?_
            refine tk_r ?_
            obtain rfl := Option.some.inj hF
            refine ret_le rfl ?_
            exact (vle_tup (.cons (vle_refl _) (.cons (vle_refl _) .nil)))
          · refine at_region ?_
            refine sxk 2 tabOK rfl ?_
            refine aops_nil ?_
            refine ct_if hF rfl (fun hc hF => ?_) (fun hc hF => ?_)
            · refine at_seq ?_
              refine at_keep [] rfl ?_
              refine at_region ?_
              refine sxk 2 tabOK rfl ?_
              refine aops_nil ?_
              refine at_ret ?_
              refine bk_r ?_
              refine tk_r ?_
              obtain rfl := Option.some.inj hF
              refine ret_le rfl ?_
              exact (vle_tup (.cons (vle_refl _) (.cons (vle_refl _) .nil)))
            · refine at_seq ?_
              refine at_seq ?_
              refine at_region ?_
              refine sxk 2 tabOK rfl ?_
              refine aops_nil ?_
              refine ct_if hF rfl (fun hc hF => ?_) (fun hc hF => ?_)
              · refine at_skip ?_
                refine at_true rfl ?_
                refine at_seq ?_
                refine at_keep [] rfl ?_
                refine at_region ?_
                refine sxk 2 tabOK rfl ?_
                refine aops_nil ?_
                refine at_ret ?_
                refine bk_r ?_
                refine tk_r ?_
                obtain rfl := Option.some.inj hF
                refine ret_le rfl ?_
                exact (vle_tup (.cons (vle_refl _) (.cons (vle_refl _) .nil)))
              · refine at_keep [2, 3, 7] rfl ?_
                refine at_region ?_
                refine sxk 2 tabOK rfl ?_
                refine aops_nil ?_
                refine ct_if hF rfl (fun hc hF => ?_) (fun hc hF => ?_)
                · refine at_seq ?_
                  refine at_region ?_
                  refine sxk 2 tabOK rfl ?_
                  refine aops_nil ?_
                  refine at_ret ?_
                  refine bk_r ?_
                  refine tk_r ?_
                  obtain rfl := Option.some.inj hF
                  refine ret_le rfl ?_
                  exact (vle_tup (.cons (vle_refl _) (.cons (vle_refl _) .nil)))
                · refine at_seq ?_
                  refine at_seq ?_
                  refine at_region ?_
                  refine sxk 2 tabOK rfl ?_
                  refine aops_nil ?_
                  refine ct_if hF rfl (fun hc hF => ?_) (fun hc hF => ?_)
                  · refine at_skip ?_
                    refine at_true rfl ?_
                    refine at_seq ?_
                    refine at_region ?_
                    refine sxk 4 tabOK rfl ?_
                    obtain ⟨x3, hn_x3, hF⟩ := bnd_some hF
                    refine sv rfl (oc_addr cCode hn_x3 tabOK rfl rfl rfl rfl) rfl ?_
                    refine sxk 4 tabOK rfl ?_
                    refine aops_nil ?_
                    refine at_ret ?_
                    refine bk_r ?_
                    refine tk_r ?_
                    obtain rfl := Option.some.inj hF
                    refine ret_le rfl ?_
                    exact (vle_tup (.cons (vle_refl _) (.cons (vle_refl _) .nil)))
                  · refine at_seq ?_
                    refine at_region ?_
                    refine sxk 2 tabOK rfl ?_
                    refine aops_nil ?_
                    refine ct_if hF rfl (fun hc hF => ?_) (fun hc hF => ?_)
                    · refine at_skip ?_
                      refine at_true rfl ?_
                      refine at_seq ?_
                      refine at_region ?_
                      refine sxk 4 tabOK rfl ?_
                      obtain ⟨x3, hn_x3, hF⟩ := bnd_some hF
                      refine sv rfl (oc_addr cCode hn_x3 tabOK rfl rfl rfl rfl) rfl ?_
                      refine sxk 4 tabOK rfl ?_
                      refine aops_nil ?_
                      refine at_ret ?_
                      refine bk_r ?_
                      refine tk_r ?_
                      obtain rfl := Option.some.inj hF
                      refine ret_le rfl ?_
                      exact (vle_tup (.cons (vle_refl _) (.cons (vle_refl _) .nil)))
                    · refine at_seq ?_
                      refine at_region ?_
                      refine sxk 2 tabOK rfl ?_
                      refine aops_nil ?_
                      refine ct_if hF rfl (fun hc hF => ?_) (fun hc hF => ?_)
                      · refine at_skip ?_
                        refine at_true rfl ?_
                        refine at_seq ?_
                        refine at_keep [2, 3] rfl ?_
                        refine at_region ?_
                        refine sxk 4 tabOK rfl ?_
                        obtain ⟨x3, hn_x3, hF⟩ := bnd_some hF
                        refine sv rfl (oc_addr cCode hn_x3 tabOK rfl rfl rfl rfl) rfl ?_
                        refine sxk 4 tabOK rfl ?_
                        refine aops_nil ?_
                        refine at_ret ?_
                        refine bk_r ?_
                        refine tk_r ?_
                        obtain rfl := Option.some.inj hF
                        refine ret_le rfl ?_
                        exact (vle_tup (.cons (vle_refl _) (.cons (vle_refl _) .nil)))
                      · refine at_region ?_
                        refine sxk 2 tabOK rfl ?_
                        refine aops_nil ?_
                        refine ct_if hF rfl (fun hc hF => ?_) (fun hc hF => ?_)
                        · refine at_seq ?_
                          refine at_keep [2, 3] rfl ?_
                          refine at_region ?_
                          refine sxk 4 tabOK rfl ?_
                          obtain ⟨x3, hn_x3, hF⟩ := bnd_some hF
                          refine sv rfl (oc_addr cCode hn_x3 tabOK rfl rfl rfl rfl) rfl ?_
                          refine sxk 4 tabOK rfl ?_
                          refine aops_nil ?_
                          refine at_ret ?_
                          refine bk_r ?_
                          refine tk_r ?_
                          obtain rfl := Option.some.inj hF
                          refine ret_le rfl ?_
                          exact (vle_tup (.cons (vle_refl _) (.cons (vle_refl _) .nil)))
                        · refine at_seq ?_
                          refine at_keep [3, 7] rfl ?_
                          refine at_region ?_
                          refine sxk 2 tabOK rfl ?_
                          refine aops_nil ?_
                          refine ct_if hF rfl (fun hc hF => ?_) (fun hc hF => ?_)
                          · refine at_seq ?_
                            refine at_region ?_
                            refine sxk 2 tabOK rfl ?_
                            obtain ⟨hb, hF⟩ := chk_some hF
                            refine s_add tabOK rfl rfl rfl hb rfl ?_
                            refine sxk 2 tabOK rfl ?_
                            refine aops_nil ?_
                            refine at_ret ?_
                            refine bk_r ?_
                            refine tk_r ?_
                            obtain rfl := Option.some.inj hF
                            refine ret_le rfl ?_
                            exact (vle_tup (.cons (vle_refl _) (.cons (vle_refl _) .nil)))
                          · refine at_seq ?_
                            refine at_region ?_
                            refine sxk 2 tabOK rfl ?_
                            refine aops_nil ?_
                            refine ct_if hF rfl (fun hc hF => ?_) (fun hc hF => ?_)
                            · refine at_seq ?_
                              refine at_region ?_
                              refine sxk 2 tabOK rfl ?_
                              obtain ⟨hb, hF⟩ := chk_some hF
                              refine s_add tabOK rfl rfl rfl hb rfl ?_
                              refine sxk 2 tabOK rfl ?_
                              refine aops_nil ?_
                              refine at_ret ?_
                              refine bk_r ?_
                              refine tk_r ?_
                              obtain rfl := Option.some.inj hF
                              refine ret_le rfl ?_
                              exact (vle_tup (.cons (vle_refl _) (.cons (vle_refl _) .nil)))
                            · refine at_seq ?_
                              refine at_seq ?_
                              refine at_region ?_
                              refine sxk 2 tabOK rfl ?_
                              refine aops_nil ?_
                              refine ct_if hF rfl (fun hc hF => ?_) (fun hc hF => ?_)
                              · refine at_skip ?_
                                refine at_true rfl ?_
                                refine at_seq ?_
                                refine at_keep [] rfl ?_
                                refine at_region ?_
                                refine sxk 2 tabOK rfl ?_
                                refine aops_nil ?_
                                refine at_ret ?_
                                refine bk_r ?_
                                refine tk_r ?_
                                obtain rfl := Option.some.inj hF
                                refine ret_le rfl ?_
                                exact (vle_tup (.cons (vle_refl _) (.cons (vle_refl _) .nil)))
                              · refine at_seq ?_
                                refine at_keep [7] rfl ?_
                                refine at_region ?_
                                refine sxk 2 tabOK rfl ?_
                                refine aops_nil ?_
                                refine ct_if hF rfl (fun hc hF => ?_) (fun hc hF => ?_)
                                · refine at_skip ?_
                                  refine at_true rfl ?_
                                  refine at_seq ?_
                                  refine at_region ?_
                                  refine sxk 2 tabOK rfl ?_
                                  refine aops_nil ?_
                                  refine at_ret ?_
                                  refine bk_r ?_
                                  refine tk_r ?_
                                  obtain rfl := Option.some.inj hF
                                  refine ret_le rfl ?_
                                  exact (vle_tup (.cons (vle_refl _) (.cons (vle_refl _) .nil)))
                                · refine at_region ?_
                                  refine sxk 2 tabOK rfl ?_
                                  refine aops_nil ?_
                                  refine ct_if hF rfl (fun hc hF => ?_) (fun hc hF => ?_)
                                  · refine at_seq ?_
                                    refine at_region ?_
                                    refine sxk 2 tabOK rfl ?_
                                    refine aops_nil ?_
                                    refine at_ret ?_
                                    refine bk_r ?_
                                    refine tk_r ?_
                                    obtain rfl := Option.some.inj hF
                                    refine ret_le rfl ?_
                                    exact (vle_tup (.cons (vle_refl _) (.cons (vle_refl _) .nil)))
                                  · refine at_skip ?_
                                    refine bk_n ?_
                                    refine at_seq ?_
                                    refine at_region ?_
                                    refine sxk 2 tabOK rfl ?_
                                    refine aops_nil ?_
                                    refine at_ret ?_
                                    obtain rfl := Option.some.inj hF
                                    refine ret_le rfl ?_
                                    exact (vle_tup (.cons (vle_refl _) (.cons (vle_refl _) .nil)))

theorem i_operandOk_ok (m : PImage) (c : PCode) (k : Int) (x_1 : PInstr) (q : Bool) (hF : i_operandOk m c k x_1 = some q) : FC Try.prog 118 [.agg (cImage.row 0 m), .agg (cCode.row 0 c), .int .i64 k, .agg (cInstr.row 0 x_1)] [] 3 (fun x _ => x = .bool q) := by
  refine FC.of_le ?_
  refine fc_body tabOK Try.func118 rfl Try.ntmps118 rfl rfl rfl ?_
  unfold i_operandOk at hF
  refine at_seq ?_
  refine at_region ?_
  refine sxk 4 tabOK rfl ?_
  refine aops_nil ?_
  refine at_seq ?_
  refine at_seq ?_
  refine at_region ?_
  refine sxk 2 tabOK rfl ?_
  refine aops_nil ?_
  refine at_block ?_
  refine at_seq ?_
  refine at_region ?_
  refine sxk 2 tabOK rfl ?_
  refine aops_nil ?_
  refine ct_if hF rfl (fun hc hF => ?_) (fun hc hF => ?_)
  · refine at_seq ?_
    refine at_keep [7] rfl ?_
    refine at_drawnM (id := 3) 4 (by kernel_rfl) (by kernel_rfl) ?_
    refine nx tabOK rfl ?_
    refine nx tabOK rfl ?_
    obtain ⟨x5, hx5, hF⟩ := bnd_some hF
    refine n_call (i_PrimitiveNames_ok  x5 hx5) rfl (rlL_nil) (cStr.rl_psl (l := 1) (l' := 1) _ x5 rfl) rfl ?_
    refine nv rfl (oc_len cStr tabOK rfl rfl rfl) rfl ?_
    refine dn_nil rfl ?_
    refine sxk 2 tabOK rfl ?_
    refine aops_nil ?_
    refine at_ret ?_
    refine bk_r ?_
    refine tk_r ?_
    obtain rfl := Option.some.inj hF
    refine ret_le rfl ?_
    exact (vle_refl _)
  · refine at_seq ?_
    refine at_seq ?_
    refine at_keep [2, 4, 5, 7, 10] rfl ?_
    refine at_region ?_
    refine sxk 2 tabOK rfl ?_
    refine aops_nil ?_
    refine ct_if hF rfl (fun hc hF => ?_) (fun hc hF => ?_)
    · refine at_skip ?_
      refine at_true rfl ?_
      refine at_seq ?_
      refine at_region ?_
      refine sxk 6 tabOK rfl ?_
      refine aops_nil ?_
      refine at_ret ?_
      refine bk_r ?_
      refine tk_r ?_
      obtain rfl := Option.some.inj hF
      refine ret_le rfl ?_
      exact (vle_refl _)
    · refine at_seq ?_
      refine at_region ?_
      refine sxk 2 tabOK rfl ?_
      refine aops_nil ?_
      refine ct_if hF rfl (fun hc hF => ?_) (fun hc hF => ?_)
      · refine at_skip ?_
        refine at_true rfl ?_
        refine at_seq ?_
        refine at_region ?_
        refine sxk 6 tabOK rfl ?_
        refine aops_nil ?_
        refine at_ret ?_
        refine bk_r ?_
        refine tk_r ?_
        obtain rfl := Option.some.inj hF
        refine ret_le rfl ?_
        exact (vle_refl _)
      · refine at_region ?_
        refine sxk 2 tabOK rfl ?_
        refine aops_nil ?_
        refine ct_if hF rfl (fun hc hF => ?_) (fun hc hF => ?_)
        · refine at_seq ?_
          refine at_keep [5, 7] rfl ?_
          refine at_region ?_
          refine sxk 6 tabOK rfl ?_
          refine aops_nil ?_
          refine at_ret ?_
          refine bk_r ?_
          refine tk_r ?_
          obtain rfl := Option.some.inj hF
          refine ret_le rfl ?_
          exact (vle_refl _)
        · refine at_seq ?_
          refine at_region ?_
          refine sxk 2 tabOK rfl ?_
          refine aops_nil ?_
          refine ct_if hF rfl (fun hc hF => ?_) (fun hc hF => ?_)
          · refine at_seq ?_
            refine at_keep [5, 7] rfl ?_
            refine at_region ?_
            refine sxk 6 tabOK rfl ?_
            refine ops_if (g := 34) hF rfl (fun hc hF => ?_) (fun hc hF => ?_)
            · refine sxk 7 tabOK rfl ?_
              refine aops_nil ?_
              refine at_ret ?_
              refine bk_r ?_
              refine tk_r ?_
              obtain rfl := Option.some.inj hF
              refine ret_le rfl ?_
              exact (vle_refl _)
            · refine sxk 7 tabOK rfl ?_
              refine aops_nil ?_
              refine at_ret ?_
              refine bk_r ?_
              refine tk_r ?_
              obtain rfl := Option.some.inj hF
              refine ret_le rfl ?_
              exact (vle_refl _)
          · refine at_seq ?_
            refine at_region ?_
            refine sxk 2 tabOK rfl ?_
            refine aops_nil ?_
            refine ct_if hF rfl (fun hc hF => ?_) (fun hc hF => ?_)
            · refine at_seq ?_
              refine at_keep [5, 7] rfl ?_
              refine at_region ?_
              refine sxk 6 tabOK rfl ?_
              refine aops_nil ?_
              refine at_ret ?_
              refine bk_r ?_
              refine tk_r ?_
              obtain rfl := Option.some.inj hF
              refine ret_le rfl ?_
              exact (vle_refl _)
            · refine at_seq ?_
              refine at_seq ?_
              refine at_keep [2, 4, 5, 7, 10] rfl ?_
              refine at_region ?_
              refine sxk 2 tabOK rfl ?_
              refine aops_nil ?_
              refine ct_if hF rfl (fun hc hF => ?_) (fun hc hF => ?_)
              · refine at_skip ?_
                refine at_true rfl ?_
                refine at_seq ?_
                refine at_region ?_
                refine sxk 6 tabOK rfl ?_
                refine aops_nil ?_
                refine at_ret ?_
                refine bk_r ?_
                refine tk_r ?_
                obtain rfl := Option.some.inj hF
                refine ret_le rfl ?_
                exact (vle_refl _)
              · refine at_seq ?_
                refine at_region ?_
                refine sxk 2 tabOK rfl ?_
                refine aops_nil ?_
                refine ct_if hF rfl (fun hc hF => ?_) (fun hc hF => ?_)
                · refine at_skip ?_
                  refine at_true rfl ?_
                  refine at_seq ?_
                  refine at_region ?_
                  refine sxk 6 tabOK rfl ?_
                  refine aops_nil ?_
                  refine at_ret ?_
                  refine bk_r ?_
                  refine tk_r ?_
                  obtain rfl := Option.some.inj hF
                  refine ret_le rfl ?_
                  exact (vle_refl _)
                · refine at_region ?_
                  refine sxk 2 tabOK rfl ?_
                  refine aops_nil ?_
                  refine ct_if hF rfl (fun hc hF => ?_) (fun hc hF => ?_)
                  · refine at_seq ?_
                    refine at_keep [5, 7] rfl ?_
                    refine at_region ?_
                    refine sxk 6 tabOK rfl ?_
                    refine aops_nil ?_
                    refine at_ret ?_
                    refine bk_r ?_
                    refine tk_r ?_
                    obtain rfl := Option.some.inj hF
                    refine ret_le rfl ?_
                    exact (vle_refl _)
                  · refine at_seq ?_
                    refine at_region ?_
                    refine sxk 2 tabOK rfl ?_
                    refine aops_nil ?_
                    refine ct_if hF rfl (fun hc hF => ?_) (fun hc hF => ?_)
                    · refine at_seq ?_
                      refine at_keep [2, 7] rfl ?_
                      refine at_region ?_
                      refine sxk 5 tabOK rfl ?_
                      refine aops_nil ?_
                      refine at_ret ?_
                      refine bk_r ?_
                      refine tk_r ?_
                      obtain rfl := Option.some.inj hF
                      refine ret_le rfl ?_
                      exact (vle_refl _)
                    · refine at_seq ?_
                      refine at_seq ?_
                      refine at_keep [2, 4, 7, 10] rfl ?_
                      refine at_region ?_
                      refine sxk 2 tabOK rfl ?_
                      refine aops_nil ?_
                      refine cl_midn (σ := Bool) (fun x5 => ⟨[(2, .int .i64 k), (4, .ptr 3 1 0 0), (7, .ptr 5 1 0 0), (10, .int .i64 x_1.op), (63, .bool x5)], [(3, ⟨2, [cImage.row 0 m]⟩), (5, ⟨6, [cInstr.row 0 x_1]⟩)], 6, 102, []⟩) (fun x5 => i_operandOk_J1 m k x_1 x5 = some q) ?_ ?_
                      · refine ct_if hF rfl (fun hc hF => ?_) (fun hc hF => ?_)
                        · refine at_skip ?_
                          exact arr_cut ⟨true, hF, (le_down (down_all (ee_cons rfl rfl rfl (ee_cons rfl rfl (Nat.le_of_ble_eq_true rfl) (ee_cons rfl rfl (Nat.le_of_ble_eq_true rfl) (ee_cons rfl rfl rfl (ee_cons rfl rfl rfl ee_nil))))) (he_cons rfl rfl rfl (row_one (cImage.row_ok _ rfl)) (he_cons rfl rfl rfl (row_one (cInstr.row_ok _ rfl)) he_nil)) rfl rfl rfl rfl))⟩
                        · refine at_region ?_
                          refine sxk 2 tabOK rfl ?_
                          refine aops_nil ?_
                          exact arr_cut ⟨(decide (x_1.op = 20)), hF, (le_down (down_all (ee_cons rfl rfl rfl (ee_cons rfl rfl (Nat.le_of_ble_eq_true rfl) (ee_cons rfl rfl (Nat.le_of_ble_eq_true rfl) (ee_cons rfl rfl rfl (ee_cons rfl rfl rfl ee_nil))))) (he_cons rfl rfl rfl (row_one (cImage.row_ok _ rfl)) (he_cons rfl rfl rfl (row_one (cInstr.row_ok _ rfl)) he_nil)) rfl rfl rfl rfl))⟩
                      · rintro x5 hF
                        refine at_eq (s' := ⟨[(2, .int .i64 k), (4, .ptr 3 1 0 0), (7, .ptr 5 1 0 0), (10, .int .i64 x_1.op), (63, .bool x5)], [(3, ⟨2, [cImage.row 0 m]⟩), (5, ⟨6, [cInstr.row 0 x_1]⟩)], 6, 102, []⟩) rfl ?_
                        replace hF : i_operandOk_J1 m k x_1 x5 = some q := hF
                        unfold i_operandOk_J1 at hF
                        refine ct_b hF rfl (fun hc hF => ?_) (fun hc hF => ?_)
                        · refine at_seq ?_
                          refine at_region ?_
                          refine sxk 5 tabOK rfl ?_
                          refine ops_if (g := 70) hF rfl (fun hc hF => ?_) (fun hc hF => ?_)
                          · refine sxk 4 tabOK rfl ?_
                            obtain ⟨x6, hn_x6, hF⟩ := bnd_some hF
                            refine sv rfl (oc_addr cCode hn_x6 tabOK rfl rfl rfl rfl) rfl ?_
                            refine sxk 5 tabOK rfl ?_
                            refine aops_nil ?_
                            refine at_ret ?_
                            refine bk_r ?_
                            refine tk_r ?_
                            obtain rfl := Option.some.inj hF
                            refine ret_le rfl ?_
                            exact (vle_refl _)
                          · refine sxk 10 tabOK rfl ?_
                            refine aops_nil ?_
                            refine at_ret ?_
                            refine bk_r ?_
                            refine tk_r ?_
                            obtain rfl := Option.some.inj hF
                            refine ret_le rfl ?_
                            exact (vle_refl _)
                        · refine at_seq ?_
                          refine at_region ?_
                          refine sxk 2 tabOK rfl ?_
                          refine aops_nil ?_
                          refine ct_if hF rfl (fun hc hF => ?_) (fun hc hF => ?_)
                          · refine at_seq ?_
                            refine at_region ?_
                            refine sxk 5 tabOK rfl ?_
                            refine ops_if (g := 86) hF rfl (fun hc hF => ?_) (fun hc hF => ?_)
                            · refine sxk 4 tabOK rfl ?_
                              obtain ⟨x6, hn_x6, hF⟩ := bnd_some hF
                              refine sv rfl (oc_addr cCode hn_x6 tabOK rfl rfl rfl rfl) rfl ?_
                              refine sxk 5 tabOK rfl ?_
                              refine aops_nil ?_
                              refine at_ret ?_
                              refine bk_r ?_
                              refine tk_r ?_
                              obtain rfl := Option.some.inj hF
                              refine ret_le rfl ?_
                              exact (vle_refl _)
                            · refine sxk 10 tabOK rfl ?_
                              refine aops_nil ?_
                              refine at_ret ?_
                              refine bk_r ?_
                              refine tk_r ?_
                              obtain rfl := Option.some.inj hF
                              refine ret_le rfl ?_
                              exact (vle_refl _)
                          · refine at_seq ?_
                            refine at_seq ?_
                            refine at_region ?_
                            refine sxk 2 tabOK rfl ?_
                            refine aops_nil ?_
                            refine ct_if hF rfl (fun hc hF => ?_) (fun hc hF => ?_)
                            · refine at_skip ?_
                              refine at_true rfl ?_
                              refine at_seq ?_
                              refine at_keep [7] rfl ?_
                              refine at_region ?_
                              refine sxk 4 tabOK rfl ?_
                              refine aops_nil ?_
                              refine at_ret ?_
                              refine bk_r ?_
                              refine tk_r ?_
                              obtain rfl := Option.some.inj hF
                              refine ret_le rfl ?_
                              exact (vle_refl _)
                            · refine at_keep [7, 10] rfl ?_
                              refine at_region ?_
                              refine sxk 2 tabOK rfl ?_
                              refine aops_nil ?_
                              refine ct_if hF rfl (fun hc hF => ?_) (fun hc hF => ?_)
                              · refine at_seq ?_
                                refine at_region ?_
                                refine sxk 4 tabOK rfl ?_
                                refine aops_nil ?_
                                refine at_ret ?_
                                refine bk_r ?_
                                refine tk_r ?_
                                obtain rfl := Option.some.inj hF
                                refine ret_le rfl ?_
                                exact (vle_refl _)
                              · refine at_skip ?_
                                refine bk_n ?_
                                refine at_seq ?_
                                refine at_region ?_
                                refine sxk 1 tabOK rfl ?_
                                refine aops_nil ?_
                                refine at_ret ?_
                                obtain rfl := Option.some.inj hF
                                refine ret_le rfl ?_
                                exact (vle_refl _)

theorem i_instrOk_ok (x_1 : PInstr) (q : Bool) (hF : i_instrOk x_1 = some q) : FC Try.prog 117 [.agg (cInstr.row 0 x_1)] [] 3 (fun x _ => x = .bool q) := by
  refine FC.of_le ?_
  refine fc_body tabOK Try.func117 rfl Try.ntmps117 rfl rfl rfl ?_
  unfold i_instrOk at hF
  refine at_seq ?_
  refine at_region ?_
  refine sxk 2 tabOK rfl ?_
  refine aops_nil ?_
  refine at_seq ?_
  refine at_seq ?_
  refine at_region ?_
  refine sxk 4 tabOK rfl ?_
  refine ops_if (g := 6) hF rfl (fun hc hF => ?_) (fun hc hF => ?_)
  · refine sxk 4 tabOK rfl ?_
    refine aops_nil ?_
    refine at_true rfl ?_
    refine at_seq ?_
    refine at_keep [] rfl ?_
    refine at_region ?_
    refine sxk 1 tabOK rfl ?_
    refine aops_nil ?_
    refine at_ret ?_
    refine tk_r ?_
    obtain rfl := Option.some.inj hF
    refine ret_le rfl ?_
    exact (vle_refl _)
  · refine sxk 4 tabOK rfl ?_
    refine aops_nil ?_
    refine ct_if hF rfl (fun hc hF => ?_) (fun hc hF => ?_)
    · refine at_seq ?_
      refine at_keep [] rfl ?_
      refine at_region ?_
      refine sxk 1 tabOK rfl ?_
      refine aops_nil ?_
      refine at_ret ?_
      refine tk_r ?_
      obtain rfl := Option.some.inj hF
      refine ret_le rfl ?_
      exact (vle_refl _)
    · refine at_skip ?_
      refine at_seq ?_
      refine at_seq ?_
      refine at_keep [1] rfl ?_
      refine at_region ?_
      refine sxk 3 tabOK rfl ?_
      refine aops_nil ?_
      refine ct_if hF rfl (fun hc hF => ?_) (fun hc hF => ?_)
      · refine at_seq ?_
        refine at_region ?_
        refine sxk 4 tabOK rfl ?_
        refine ops_if (g := 17) hF rfl (fun hc hF => ?_) (fun hc hF => ?_)
        · refine sxk 2 tabOK rfl ?_
          obtain ⟨x2, hx2, hF⟩ := bnd_some hF
          refine call_eq (i_IsDatum_ok x_1.d x2 hx2) rfl ((rlL_cons (cDat.rl_agg (l := 0) (l' := 0) _ x_1.d rfl) rlL_nil)) rfl rfl ?_
          refine sxk 2 tabOK rfl ?_
          refine aops_nil ?_
          refine at_ret ?_
          refine tk_r ?_
          obtain rfl := Option.some.inj hF
          refine ret_le rfl ?_
          exact (vle_refl _)
        · refine sxk 5 tabOK rfl ?_
          refine aops_nil ?_
          refine at_ret ?_
          refine tk_r ?_
          obtain rfl := Option.some.inj hF
          refine ret_le rfl ?_
          exact (vle_refl _)
      · refine at_skip ?_
        refine at_seq ?_
        refine at_seq ?_
        refine at_region ?_
        refine sxk 2 tabOK rfl ?_
        refine sv rfl (ov_build tabOK rfl rfl) rfl ?_
        refine ops_le (le_slot (y := .agg [.int .i64 0, .int .i64 0, .str ([] : List UInt8), .psl 1 4 ([].map (cDat.enc 1))]) 24 rfl (vle_agg (.cons (vle_refl _) (.cons (vle_refl _) (.cons (vle_refl _) (.cons (vle_nil _ _) .nil))))) rfl) ?_
        obtain ⟨x2, hx2, hF⟩ := bnd_some hF
        refine call_eq (i_EqualData_ok RF x_1.d (PDat.mk 0 0 ([] : List UInt8) []) x2 hx2) rfl ((rlL_cons (cDat.rl_agg (l := 0) (l' := 0) _ x_1.d rfl) (rlL_cons (rl_aggL (rlL_cons (rfl) (rlL_cons (rfl) (rlL_cons (rfl) (rlL_cons (cDat.rl_psl (l := 1) (l' := 0) _ [] rfl) rlL_nil))))) rlL_nil))) rfl rfl ?_
        refine sxk 2 tabOK rfl ?_
        refine ops_ifnb (g := 27) hF rfl (fun hc hF => ?_) (fun hc hF => ?_)
        · refine sxk 9 tabOK rfl ?_
          refine aops_nil ?_
          refine at_true rfl ?_
          refine at_seq ?_
          refine at_keep [] rfl ?_
          refine at_region ?_
          refine sxk 1 tabOK rfl ?_
          refine aops_nil ?_
          refine at_ret ?_
          refine tk_r ?_
          obtain rfl := Option.some.inj hF
          refine ret_le rfl ?_
          exact (vle_refl _)
        · refine sxk 5 tabOK rfl ?_
          refine ops_if (g := 32) hF rfl (fun hc hF => ?_) (fun hc hF => ?_)
          · refine sxk 4 tabOK rfl ?_
            refine aops_nil ?_
            refine at_true rfl ?_
            refine at_seq ?_
            refine at_keep [] rfl ?_
            refine at_region ?_
            refine sxk 1 tabOK rfl ?_
            refine aops_nil ?_
            refine at_ret ?_
            refine tk_r ?_
            obtain rfl := Option.some.inj hF
            refine ret_le rfl ?_
            exact (vle_refl _)
          · refine sxk 4 tabOK rfl ?_
            refine aops_nil ?_
            refine ct_if hF rfl (fun hc hF => ?_) (fun hc hF => ?_)
            · refine at_seq ?_
              refine at_keep [] rfl ?_
              refine at_region ?_
              refine sxk 1 tabOK rfl ?_
              refine aops_nil ?_
              refine at_ret ?_
              refine tk_r ?_
              obtain rfl := Option.some.inj hF
              refine ret_le rfl ?_
              exact (vle_refl _)
            · refine at_skip ?_
              refine at_seq ?_
              refine at_keep [1] rfl ?_
              refine at_region ?_
              refine sxk 4 tabOK rfl ?_
              refine ops_if (g := 40) hF rfl (fun hc hF => ?_) (fun hc hF => ?_)
              · refine sxk 10 tabOK rfl ?_
                refine aops_nil ?_
                refine at_ret ?_
                obtain rfl := Option.some.inj hF
                refine ret_le rfl ?_
                exact (vle_refl _)
              · refine sxk 4 tabOK rfl ?_
                refine ops_ifn (g := 44) hF rfl (fun hc hF => ?_) (fun hc hF => ?_)
                · refine sxk 6 tabOK rfl ?_
                  refine aops_nil ?_
                  refine at_ret ?_
                  obtain rfl := Option.some.inj hF
                  refine ret_le rfl ?_
                  exact (vle_refl _)
                · refine sxk 6 tabOK rfl ?_
                  refine aops_nil ?_
                  refine at_ret ?_
                  obtain rfl := Option.some.inj hF
                  refine ret_le rfl ?_
                  exact (vle_refl _)

theorem i_codeOk_ok (m : PImage) (k : Int) (q : Bool) (hF : i_codeOk m k = some q) : FC Try.prog 84 [.agg (cImage.row 0 m), .int .i64 k] [] 3 (fun x _ => x = .bool q) := by
  refine FC.of_le ?_
  refine fc_body tabOK Try.func84 rfl Try.ntmps84 rfl rfl rfl ?_
  unfold i_codeOk at hF
  refine at_seq ?_
  refine at_region ?_
  refine sxk 2 tabOK rfl ?_
  refine aops_nil ?_
  refine at_seq ?_
  refine at_region ?_
  refine sxk 3 tabOK rfl ?_
  obtain ⟨x3, hn_x3, hF⟩ := bnd_some hF
  refine sv rfl (oc_addr cCode hn_x3 tabOK rfl rfl rfl rfl) rfl ?_
  refine sxk 3 tabOK rfl ?_
  refine aops_nil ?_
  refine at_seq ?_
  refine at_seq ?_
  refine at_keep [1, 2, 5] rfl ?_
  refine at_region ?_
  refine sxk 4 tabOK rfl ?_
  refine ops_if (g := 16) hF rfl (fun hc hF => ?_) (fun hc hF => ?_)
  · refine sxk 38 tabOK rfl ?_
    refine aops_nil ?_
    refine at_true rfl ?_
    refine at_seq ?_
    refine at_keep [] rfl ?_
    refine at_region ?_
    refine sxk 1 tabOK rfl ?_
    refine aops_nil ?_
    refine at_ret ?_
    refine tk_r ?_
    obtain rfl := Option.some.inj hF
    refine ret_le rfl ?_
    exact (vle_refl _)
  · refine sxk 5 tabOK rfl ?_
    refine ops_if (g := 21) hF rfl (fun hc hF => ?_) (fun hc hF => ?_)
    · refine sxk 33 tabOK rfl ?_
      refine aops_nil ?_
      refine at_true rfl ?_
      refine at_seq ?_
      refine at_keep [] rfl ?_
      refine at_region ?_
      refine sxk 1 tabOK rfl ?_
      refine aops_nil ?_
      refine at_ret ?_
      refine tk_r ?_
      obtain rfl := Option.some.inj hF
      refine ret_le rfl ?_
      exact (vle_refl _)
    · refine sxk 7 tabOK rfl ?_
      refine ops_if (g := 28) hF rfl (fun hc hF => ?_) (fun hc hF => ?_)
      · refine sxk 26 tabOK rfl ?_
        refine aops_nil ?_
        refine at_true rfl ?_
        refine at_seq ?_
        refine at_keep [] rfl ?_
        refine at_region ?_
        refine sxk 1 tabOK rfl ?_
        refine aops_nil ?_
        refine at_ret ?_
        refine tk_r ?_
        obtain rfl := Option.some.inj hF
        refine ret_le rfl ?_
        exact (vle_refl _)
      · refine sxk 5 tabOK rfl ?_
        refine ops_if (g := 33) hF rfl (fun hc hF => ?_) (fun hc hF => ?_)
        · refine sxk 21 tabOK rfl ?_
          refine aops_nil ?_
          refine at_true rfl ?_
          refine at_seq ?_
          refine at_keep [] rfl ?_
          refine at_region ?_
          refine sxk 1 tabOK rfl ?_
          refine aops_nil ?_
          refine at_ret ?_
          refine tk_r ?_
          obtain rfl := Option.some.inj hF
          refine ret_le rfl ?_
          exact (vle_refl _)
        · refine sxk 5 tabOK rfl ?_
          refine ops_if (g := 38) hF rfl (fun hc hF => ?_) (fun hc hF => ?_)
          · refine sxk 16 tabOK rfl ?_
            refine aops_nil ?_
            refine at_true rfl ?_
            refine at_seq ?_
            refine at_keep [] rfl ?_
            refine at_region ?_
            refine sxk 1 tabOK rfl ?_
            refine aops_nil ?_
            refine at_ret ?_
            refine tk_r ?_
            obtain rfl := Option.some.inj hF
            refine ret_le rfl ?_
            exact (vle_refl _)
          · refine sxk 5 tabOK rfl ?_
            refine ops_if (g := 43) hF rfl (fun hc hF => ?_) (fun hc hF => ?_)
            · refine sxk 11 tabOK rfl ?_
              refine aops_nil ?_
              refine at_true rfl ?_
              refine at_seq ?_
              refine at_keep [] rfl ?_
              refine at_region ?_
              refine sxk 1 tabOK rfl ?_
              refine aops_nil ?_
              refine at_ret ?_
              refine tk_r ?_
              obtain rfl := Option.some.inj hF
              refine ret_le rfl ?_
              exact (vle_refl _)
            · refine sxk 2 tabOK rfl ?_
              refine sv rfl (oc_len cInstr tabOK rfl rfl rfl) rfl ?_
              refine sxk 3 tabOK rfl ?_
              refine ops_if (g := 49) hF rfl (fun hc hF => ?_) (fun hc hF => ?_)
              · refine sxk 5 tabOK rfl ?_
                refine aops_nil ?_
                refine at_true rfl ?_
                refine at_seq ?_
                refine at_keep [] rfl ?_
                refine at_region ?_
                refine sxk 1 tabOK rfl ?_
                refine aops_nil ?_
                refine at_ret ?_
                refine tk_r ?_
                obtain rfl := Option.some.inj hF
                refine ret_le rfl ?_
                exact (vle_refl _)
              · refine sxk 2 tabOK rfl ?_
                refine sv rfl (oc_len cInstr tabOK rfl rfl rfl) rfl ?_
                refine sxk 2 tabOK rfl ?_
                refine aops_nil ?_
                refine ct_if hF rfl (fun hc hF => ?_) (fun hc hF => ?_)
                · refine at_seq ?_
                  refine at_keep [] rfl ?_
                  refine at_region ?_
                  refine sxk 1 tabOK rfl ?_
                  refine aops_nil ?_
                  refine at_ret ?_
                  refine tk_r ?_
                  obtain rfl := Option.some.inj hF
                  refine ret_le rfl ?_
                  exact (vle_refl _)
                · refine at_skip ?_
                  refine at_seq ?_
                  refine at_seq ?_
                  refine at_keep [1, 2, 5] rfl ?_
                  refine at_region ?_
                  refine sxk 2 tabOK rfl ?_
                  refine sv rfl (oc_len cInstr tabOK rfl rfl rfl) rfl ?_
                  refine sxk 1 tabOK rfl ?_
                  refine aops_nil ?_
                  refine at_block ?_
                  refine cl_loop (σ := Int) (fun x4 => ⟨[(1, .int .i64 k), (2, .ptr 3 1 0 0), (5, .ptr 4 1 0 0), (56, .psl 0 6 (x3.instrs.map (cInstr.enc 0))), (57, .int .i64 (x3.instrs.length : Int)), (58, .int .i64 x4)], [(3, ⟨2, [cImage.row 0 m]⟩), (4, ⟨4, [cCode.row 0 x3]⟩)], 5, 74, []⟩) (i_codeOk_L1 m k x3) LF 0 hF (le_down (down_all (ee_cons rfl rfl rfl (ee_cons rfl rfl (Nat.le_of_ble_eq_true rfl) (ee_cons rfl rfl (Nat.le_of_ble_eq_true rfl) (ee_cons rfl rfl (cInstr.ok_psl _ rfl) (ee_cons rfl rfl rfl (ee_cons rfl rfl rfl ee_nil)))))) (he_cons rfl rfl rfl (row_one (cImage.row_ok _ rfl)) (he_cons rfl rfl rfl (row_one (cCode.row_ok _ rfl)) he_nil)) rfl rfl rfl rfl)) ?_
                  rintro lk_ x4 hF
                  refine at_eq (s' := ⟨[(1, .int .i64 k), (2, .ptr 3 1 0 0), (5, .ptr 4 1 0 0), (56, .psl 0 6 (x3.instrs.map (cInstr.enc 0))), (57, .int .i64 (x3.instrs.length : Int)), (58, .int .i64 x4)], [(3, ⟨2, [cImage.row 0 m]⟩), (4, ⟨4, [cCode.row 0 x3]⟩)], 5, 74, []⟩) rfl ?_
                  replace hF : i_codeOk_L1b m k x3 (itr (i_codeOk_L1 m k x3) lk_) x4 = some q := hF
                  unfold i_codeOk_L1b at hF
                  generalize itr (i_codeOk_L1 m k x3) lk_ = go5 at hF ⊢
                  refine at_seq ?_
                  refine at_region ?_
                  refine sxk 1 tabOK rfl ?_
                  refine aops_nil ?_
                  refine at_seq ?_
                  refine ct_if hF rfl (fun hc hF => ?_) (fun hc hF => ?_)
                  · refine at_skip ?_
                    refine at_seq ?_
                    refine at_block ?_
                    refine at_seq ?_
                    refine at_region ?_
                    obtain ⟨x6, hn_x6, hF⟩ := bnd_some hF
                    refine sv rfl (oc_addr cInstr hn_x6 tabOK rfl rfl rfl rfl) rfl ?_
                    refine sxk 3 tabOK rfl ?_
                    refine aops_nil ?_
                    refine at_seq ?_
                    refine at_region ?_
                    refine sxk 1 tabOK rfl ?_
                    obtain ⟨x7, hx7, hF⟩ := bnd_some hF
                    refine call_eq (i_instrOk_ok x6 x7 hx7) rfl ((rlL_cons (cInstr.rl_agg (l := 0) (l' := 0) _ x6 rfl) rlL_nil)) rfl rfl ?_
                    refine sxk 2 tabOK rfl ?_
                    refine ops_ifnb (g := 65) hF rfl (fun hc hF => ?_) (fun hc hF => ?_)
                    · refine sxk 7 tabOK rfl ?_
                      refine aops_nil ?_
                      refine at_true rfl ?_
                      refine at_seq ?_
                      refine at_keep [] rfl ?_
                      refine at_region ?_
                      refine sxk 1 tabOK rfl ?_
                      refine aops_nil ?_
                      refine at_ret ?_
                      refine bk_r ?_
                      refine tk_r ?_
                      refine ll_r ?_
                      refine bk_r ?_
                      refine tk_r ?_
                      obtain rfl := Option.some.inj hF
                      refine ret_le rfl ?_
                      exact (vle_refl _)
                    · refine sxk 4 tabOK rfl ?_
                      obtain ⟨x8, hx8, hF⟩ := bnd_some hF
                      refine call_eq (i_operandOk_ok m x3 k x6 x8 hx8) rfl ((rlL_cons (cImage.rl_agg (l := 0) (l' := 0) _ m rfl) (rlL_cons (cCode.rl_agg (l := 0) (l' := 0) _ x3 rfl) (rlL_cons (rfl) (rlL_cons (cInstr.rl_agg (l := 0) (l' := 0) _ x6 rfl) rlL_nil))))) rfl rfl ?_
                      refine sxk 2 tabOK rfl ?_
                      refine aops_nil ?_
                      refine ct_bn hF rfl (fun hc hF => ?_) (fun hc hF => ?_)
                      · refine at_seq ?_
                        refine at_keep [] rfl ?_
                        refine at_region ?_
                        refine sxk 1 tabOK rfl ?_
                        refine aops_nil ?_
                        refine at_ret ?_
                        refine bk_r ?_
                        refine tk_r ?_
                        refine ll_r ?_
                        refine bk_r ?_
                        refine tk_r ?_
                        obtain rfl := Option.some.inj hF
                        refine ret_le rfl ?_
                        exact (vle_refl _)
                      · refine at_skip ?_
                        refine bk_n ?_
                        refine at_keep [1, 2, 5, 56, 57, 58, 66, 67, 68, 69, 70, 71] rfl ?_
                        refine at_region ?_
                        obtain ⟨hb, hF⟩ := chk_some hF
                        refine s_add tabOK rfl rfl rfl hb rfl ?_
                        refine sxk 1 tabOK rfl ?_
                        refine aops_nil ?_
                        exact arr_loop ⟨(x4 + 1), hF, (le_down (down_all (ee_cons rfl rfl rfl (ee_cons rfl rfl (Nat.le_of_ble_eq_true rfl) (ee_cons rfl rfl (Nat.le_of_ble_eq_true rfl) (ee_cons rfl rfl (cInstr.ok_psl _ rfl) (ee_cons rfl rfl rfl (ee_cons rfl rfl rfl ee_nil)))))) (he_cons rfl rfl rfl (row_one (cImage.row_ok _ rfl)) (he_cons rfl rfl rfl (row_one (cCode.row_ok _ rfl)) he_nil)) rfl rfl rfl rfl))⟩
                  · refine at_exit ?_
                    refine tk_x ?_
                    refine ll_x ?_
                    refine bk_hit ?_
                    refine at_seq ?_
                    refine at_keep [] rfl ?_
                    refine at_region ?_
                    refine sxk 1 tabOK rfl ?_
                    refine aops_nil ?_
                    refine at_ret ?_
                    obtain rfl := Option.some.inj hF
                    refine ret_le rfl ?_
                    exact (vle_refl _)

theorem i_namesCode_ok (op : Int) (q : Bool) (hF : i_namesCode op = some q) : FC Try.prog 86 [.int .i64 op] [] 3 (fun x _ => x = .bool q) := by
  refine FC.of_le ?_
  refine fc_body tabOK Try.func86 rfl Try.ntmps86 rfl rfl rfl ?_
  unfold i_namesCode at hF
  refine at_seq ?_
  refine at_region ?_
  refine sxk 1 tabOK rfl ?_
  refine aops_nil ?_
  refine at_seq ?_
  refine at_region ?_
  refine sxk 3 tabOK rfl ?_
  refine ops_if (g := 5) hF rfl (fun hc hF => ?_) (fun hc hF => ?_)
  · refine sxk 12 tabOK rfl ?_
    refine aops_nil ?_
    refine at_ret ?_
    obtain rfl := Option.some.inj hF
    refine ret_le rfl ?_
    exact (vle_refl _)
  · refine sxk 4 tabOK rfl ?_
    refine ops_if (g := 9) hF rfl (fun hc hF => ?_) (fun hc hF => ?_)
    · refine sxk 8 tabOK rfl ?_
      refine aops_nil ?_
      refine at_ret ?_
      obtain rfl := Option.some.inj hF
      refine ret_le rfl ?_
      exact (vle_refl _)
    · refine sxk 4 tabOK rfl ?_
      refine ops_if (g := 13) hF rfl (fun hc hF => ?_) (fun hc hF => ?_)
      · refine sxk 4 tabOK rfl ?_
        refine aops_nil ?_
        refine at_ret ?_
        obtain rfl := Option.some.inj hF
        refine ret_le rfl ?_
        exact (vle_refl _)
      · refine sxk 4 tabOK rfl ?_
        refine aops_nil ?_
        refine at_ret ?_
        obtain rfl := Option.some.inj hF
        refine ret_le rfl ?_
        exact (vle_refl _)

theorem i_isFalse_ok (x_1 : PVal) (q : Bool) (hF : i_isFalse x_1 = some q) : FC Try.prog 99 [.agg (cVal.row 0 x_1)] [] 3 (fun x _ => x = .bool q) := by
  refine FC.of_le ?_
  refine fc_body tabOK Try.func99 rfl Try.ntmps99 rfl rfl rfl ?_
  unfold i_isFalse at hF
  refine at_seq ?_
  refine at_region ?_
  refine sxk 2 tabOK rfl ?_
  refine aops_nil ?_
  refine at_seq ?_
  refine at_region ?_
  refine sxk 4 tabOK rfl ?_
  refine ops_if (g := 6) hF rfl (fun hc hF => ?_) (fun hc hF => ?_)
  · refine sxk 5 tabOK rfl ?_
    refine aops_nil ?_
    refine at_ret ?_
    obtain rfl := Option.some.inj hF
    refine ret_le rfl ?_
    exact (vle_refl _)
  · refine sxk 5 tabOK rfl ?_
    refine aops_nil ?_
    refine at_ret ?_
    obtain rfl := Option.some.inj hF
    refine ret_le rfl ?_
    exact (vle_refl _)

theorem i_isPure_ok (primitive : Int) (q : Bool) (hF : i_isPure primitive = some q) : FC Try.prog 54 [.int .i64 primitive] [] 3 (fun x _ => x = .bool q) := by
  refine FC.of_le ?_
  refine fc_body tabOK Try.func54 rfl Try.ntmps54 rfl rfl rfl ?_
  unfold i_isPure at hF
  refine at_seq ?_
  refine at_region ?_
  refine sxk 1 tabOK rfl ?_
  refine aops_nil ?_
  refine at_seq ?_
  refine at_region ?_
  obtain ⟨x2, hx2, hF⟩ := bnd_some hF
  refine call_eq (i_PrimitiveNames_ok  x2 hx2) rfl (rlL_nil) (cStr.rl_psl (l := 1) (l' := 1) _ x2 rfl) rfl ?_
  refine sxk 1 tabOK rfl ?_
  refine aops_nil ?_
  refine at_seq ?_
  refine at_region ?_
  refine sxk 3 tabOK rfl ?_
  refine ops_if (g := 7) hF rfl (fun hc hF => ?_) (fun hc hF => ?_)
  · refine sxk 2 tabOK rfl ?_
    refine sv rfl (oc_len cStr tabOK rfl rfl rfl) rfl ?_
    refine sxk 3 tabOK rfl ?_
    refine ops_if (g := 13) hF rfl (fun hc hF => ?_) (fun hc hF => ?_)
    · refine sxk 2 tabOK rfl ?_
      obtain ⟨x3, hn_x3, hF⟩ := bnd_some hF
      refine sv rfl (oc_addr cStr hn_x3 tabOK rfl rfl rfl rfl) rfl ?_
      refine sxk 4 tabOK rfl ?_
      refine ops_ifn (g := 20) hF rfl (fun hc hF => ?_) (fun hc hF => ?_)
      · refine sxk 2 tabOK rfl ?_
        obtain ⟨x4, hn_x4, hF⟩ := bnd_some hF
        refine sv rfl (oc_addr cStr hn_x4 tabOK rfl rfl rfl rfl) rfl ?_
        refine sxk 4 tabOK rfl ?_
        refine aops_nil ?_
        refine at_ret ?_
        obtain rfl := Option.some.inj hF
        refine ret_le rfl ?_
        exact (vle_refl _)
      · refine sxk 7 tabOK rfl ?_
        refine aops_nil ?_
        refine at_ret ?_
        obtain rfl := Option.some.inj hF
        refine ret_le rfl ?_
        exact (vle_refl _)
    · refine sxk 14 tabOK rfl ?_
      refine aops_nil ?_
      refine at_ret ?_
      obtain rfl := Option.some.inj hF
      refine ret_le rfl ?_
      exact (vle_refl _)
  · refine sxk 20 tabOK rfl ?_
    refine aops_nil ?_
    refine at_ret ?_
    obtain rfl := Option.some.inj hF
    refine ret_le rfl ?_
    exact (vle_refl _)

theorem i_ArityOf_ok (primitive : Int) (q : Int) (hF : i_ArityOf primitive = some q) : FC Try.prog 55 [.int .i64 primitive] [] 3 (fun x _ => x = .int .i64 q) := by
  refine FC.of_le ?_
  refine fc_body tabOK Try.func55 rfl Try.ntmps55 rfl rfl rfl ?_
  unfold i_ArityOf at hF
  refine at_seq ?_
  refine at_region ?_
  refine sxk 1 tabOK rfl ?_
  refine aops_nil ?_
  refine at_seq ?_
  refine at_region ?_
  obtain ⟨x2, hx2, hF⟩ := bnd_some hF
  refine call_eq (i_PrimitiveNames_ok  x2 hx2) rfl (rlL_nil) (cStr.rl_psl (l := 1) (l' := 1) _ x2 rfl) rfl ?_
  refine sxk 1 tabOK rfl ?_
  refine aops_nil ?_
  refine at_seq ?_
  refine at_seq ?_
  refine at_region ?_
  refine sxk 3 tabOK rfl ?_
  refine ops_if (g := 7) hF rfl (fun hc hF => ?_) (fun hc hF => ?_)
  · refine sxk 5 tabOK rfl ?_
    refine aops_nil ?_
    refine at_true rfl ?_
    refine at_seq ?_
    refine at_keep [] rfl ?_
    refine at_region ?_
    refine sxk 1 tabOK rfl ?_
    refine aops_nil ?_
    refine at_ret ?_
    refine tk_r ?_
    obtain rfl := Option.some.inj hF
    refine ret_le rfl ?_
    exact (vle_refl _)
  · refine sxk 2 tabOK rfl ?_
    refine sv rfl (oc_len cStr tabOK rfl rfl rfl) rfl ?_
    refine sxk 2 tabOK rfl ?_
    refine aops_nil ?_
    refine ct_if hF rfl (fun hc hF => ?_) (fun hc hF => ?_)
    · refine at_seq ?_
      refine at_keep [] rfl ?_
      refine at_region ?_
      refine sxk 1 tabOK rfl ?_
      refine aops_nil ?_
      refine at_ret ?_
      refine tk_r ?_
      obtain rfl := Option.some.inj hF
      refine ret_le rfl ?_
      exact (vle_refl _)
    · refine at_skip ?_
      refine at_seq ?_
      refine at_seq ?_
      refine at_keep [0, 3] rfl ?_
      refine at_region ?_
      refine sxk 2 tabOK rfl ?_
      obtain ⟨x3, hn_x3, hF⟩ := bnd_some hF
      refine sv rfl (oc_addr cStr hn_x3 tabOK rfl rfl rfl rfl) rfl ?_
      refine sxk 1 tabOK rfl ?_
      refine aops_nil ?_
      refine at_block ?_
      refine at_seq ?_
      refine at_seq ?_
      refine at_region ?_
      refine sxk 2 tabOK rfl ?_
      refine aops_nil ?_
      refine ct_if hF rfl (fun hc hF => ?_) (fun hc hF => ?_)
      · refine at_skip ?_
        refine at_true rfl ?_
        refine at_seq ?_
        refine at_keep [] rfl ?_
        refine at_region ?_
        refine sxk 1 tabOK rfl ?_
        refine aops_nil ?_
        refine at_ret ?_
        refine bk_r ?_
        refine tk_r ?_
        obtain rfl := Option.some.inj hF
        refine ret_le rfl ?_
        exact (vle_refl _)
      · refine at_seq ?_
        refine at_keep [16] rfl ?_
        refine at_region ?_
        refine sxk 2 tabOK rfl ?_
        refine aops_nil ?_
        refine ct_if hF rfl (fun hc hF => ?_) (fun hc hF => ?_)
        · refine at_skip ?_
          refine at_true rfl ?_
          refine at_seq ?_
          refine at_region ?_
          refine sxk 1 tabOK rfl ?_
          refine aops_nil ?_
          refine at_ret ?_
          refine bk_r ?_
          refine tk_r ?_
          obtain rfl := Option.some.inj hF
          refine ret_le rfl ?_
          exact (vle_refl _)
        · refine at_seq ?_
          refine at_region ?_
          refine sxk 2 tabOK rfl ?_
          refine aops_nil ?_
          refine ct_if hF rfl (fun hc hF => ?_) (fun hc hF => ?_)
          · refine at_skip ?_
            refine at_true rfl ?_
            refine at_seq ?_
            refine at_region ?_
            refine sxk 1 tabOK rfl ?_
            refine aops_nil ?_
            refine at_ret ?_
            refine bk_r ?_
            refine tk_r ?_
            obtain rfl := Option.some.inj hF
            refine ret_le rfl ?_
            exact (vle_refl _)
          · refine at_seq ?_
            refine at_region ?_
            refine sxk 2 tabOK rfl ?_
            refine aops_nil ?_
            refine ct_if hF rfl (fun hc hF => ?_) (fun hc hF => ?_)
            · refine at_skip ?_
              refine at_true rfl ?_
              refine at_seq ?_
              refine at_region ?_
              refine sxk 1 tabOK rfl ?_
              refine aops_nil ?_
              refine at_ret ?_
              refine bk_r ?_
              refine tk_r ?_
              obtain rfl := Option.some.inj hF
              refine ret_le rfl ?_
              exact (vle_refl _)
            · refine at_seq ?_
              refine at_region ?_
              refine sxk 2 tabOK rfl ?_
              refine aops_nil ?_
              refine ct_if hF rfl (fun hc hF => ?_) (fun hc hF => ?_)
              · refine at_skip ?_
                refine at_true rfl ?_
                refine at_seq ?_
                refine at_region ?_
                refine sxk 1 tabOK rfl ?_
                refine aops_nil ?_
                refine at_ret ?_
                refine bk_r ?_
                refine tk_r ?_
                obtain rfl := Option.some.inj hF
                refine ret_le rfl ?_
                exact (vle_refl _)
              · refine at_seq ?_
                refine at_region ?_
                refine sxk 2 tabOK rfl ?_
                refine aops_nil ?_
                refine ct_if hF rfl (fun hc hF => ?_) (fun hc hF => ?_)
                · refine at_skip ?_
                  refine at_true rfl ?_
                  refine at_seq ?_
                  refine at_keep [] rfl ?_
                  refine at_region ?_
                  refine sxk 1 tabOK rfl ?_
                  refine aops_nil ?_
                  refine at_ret ?_
                  refine bk_r ?_
                  refine tk_r ?_
                  obtain rfl := Option.some.inj hF
                  refine ret_le rfl ?_
                  exact (vle_refl _)
                · refine at_region ?_
                  refine sxk 2 tabOK rfl ?_
                  refine aops_nil ?_
                  refine ct_if hF rfl (fun hc hF => ?_) (fun hc hF => ?_)
                  · refine at_seq ?_
                    refine at_keep [] rfl ?_
                    refine at_region ?_
                    refine sxk 1 tabOK rfl ?_
                    refine aops_nil ?_
                    refine at_ret ?_
                    refine bk_r ?_
                    refine tk_r ?_
                    obtain rfl := Option.some.inj hF
                    refine ret_le rfl ?_
                    exact (vle_refl _)
                  · refine at_skip ?_
                    refine bk_n ?_
                    refine at_seq ?_
                    refine at_keep [] rfl ?_
                    refine at_region ?_
                    refine sxk 1 tabOK rfl ?_
                    refine aops_nil ?_
                    refine at_ret ?_
                    obtain rfl := Option.some.inj hF
                    refine ret_le rfl ?_
                    exact (vle_refl _)

theorem i_booleanOf_ok (b : Bool) (q : PVal) (hF : i_booleanOf b = some q) : FC Try.prog 98 [.bool b] [] 3 (fun x _ => x = .agg (cVal.row 1 q)) := by
  refine FC.of_le ?_
  refine fc_body tabOK Try.func98 rfl Try.ntmps98 rfl rfl rfl ?_
  unfold i_booleanOf at hF
  refine at_seq ?_
  refine at_region ?_
  refine sxk 1 tabOK rfl ?_
  refine aops_nil ?_
  refine at_seq ?_
  refine at_seq ?_
  refine at_region ?_
  refine sxk 1 tabOK rfl ?_
  refine aops_nil ?_
  refine ct_b hF rfl (fun hc hF => ?_) (fun hc hF => ?_)
  · refine at_seq ?_
    refine at_region ?_
    refine sv rfl (ov_build tabOK rfl rfl) rfl ?_
    refine sxk 1 tabOK rfl ?_
    refine aops_nil ?_
    refine at_ret ?_
    refine tk_r ?_
    obtain rfl := Option.some.inj hF
    refine ret_le rfl ?_
    exact (vle_refl _)
  · refine at_skip ?_
    refine at_seq ?_
    refine at_region ?_
    refine sv rfl (ov_build tabOK rfl rfl) rfl ?_
    refine sxk 1 tabOK rfl ?_
    refine aops_nil ?_
    refine at_ret ?_
    obtain rfl := Option.some.inj hF
    refine ret_le rfl ?_
    exact (vle_refl _)

theorem i_isValue_ok (x_1 : PVal) (pairs : Int) (q : Bool) (hF : i_isValue x_1 pairs = some q) : FC Try.prog 56 [.agg (cVal.row 0 x_1), .int .i64 pairs] [] 3 (fun x _ => x = .bool q) := by
  refine FC.of_le ?_
  refine fc_body tabOK Try.func56 rfl Try.ntmps56 rfl rfl rfl ?_
  unfold i_isValue at hF
  refine at_seq ?_
  refine at_region ?_
  refine sxk 2 tabOK rfl ?_
  refine aops_nil ?_
  refine at_seq ?_
  refine at_seq ?_
  refine at_region ?_
  refine sxk 2 tabOK rfl ?_
  refine aops_nil ?_
  refine at_block ?_
  refine at_seq ?_
  refine at_seq ?_
  refine at_region ?_
  refine sxk 2 tabOK rfl ?_
  refine aops_nil ?_
  refine ct_if hF rfl (fun hc hF => ?_) (fun hc hF => ?_)
  · refine at_skip ?_
    refine at_true rfl ?_
    refine at_seq ?_
    refine at_keep [2] rfl ?_
    refine at_region ?_
    refine sxk 4 tabOK rfl ?_
    refine ops_if (g := 13) hF rfl (fun hc hF => ?_) (fun hc hF => ?_)
    · refine sxk 5 tabOK rfl ?_
      refine aops_nil ?_
      refine at_ret ?_
      refine bk_r ?_
      refine tk_r ?_
      obtain rfl := Option.some.inj hF
      refine ret_le rfl ?_
      exact (vle_refl _)
    · refine sxk 5 tabOK rfl ?_
      refine aops_nil ?_
      refine at_ret ?_
      refine bk_r ?_
      refine tk_r ?_
      obtain rfl := Option.some.inj hF
      refine ret_le rfl ?_
      exact (vle_refl _)
  · refine at_region ?_
    refine sxk 2 tabOK rfl ?_
    refine aops_nil ?_
    refine ct_if hF rfl (fun hc hF => ?_) (fun hc hF => ?_)
    · refine at_seq ?_
      refine at_keep [2] rfl ?_
      refine at_region ?_
      refine sxk 4 tabOK rfl ?_
      refine ops_if (g := 13) hF rfl (fun hc hF => ?_) (fun hc hF => ?_)
      · refine sxk 5 tabOK rfl ?_
        refine aops_nil ?_
        refine at_ret ?_
        refine bk_r ?_
        refine tk_r ?_
        obtain rfl := Option.some.inj hF
        refine ret_le rfl ?_
        exact (vle_refl _)
      · refine sxk 5 tabOK rfl ?_
        refine aops_nil ?_
        refine at_ret ?_
        refine bk_r ?_
        refine tk_r ?_
        obtain rfl := Option.some.inj hF
        refine ret_le rfl ?_
        exact (vle_refl _)
    · refine at_seq ?_
      refine at_region ?_
      refine sxk 2 tabOK rfl ?_
      refine aops_nil ?_
      refine ct_if hF rfl (fun hc hF => ?_) (fun hc hF => ?_)
      · refine at_seq ?_
        refine at_keep [2] rfl ?_
        refine at_region ?_
        refine sxk 4 tabOK rfl ?_
        refine ops_if (g := 23) hF rfl (fun hc hF => ?_) (fun hc hF => ?_)
        · refine sxk 10 tabOK rfl ?_
          refine aops_nil ?_
          refine at_ret ?_
          refine bk_r ?_
          refine tk_r ?_
          obtain rfl := Option.some.inj hF
          refine ret_le rfl ?_
          exact (vle_refl _)
        · refine sxk 5 tabOK rfl ?_
          refine ops_if (g := 28) hF rfl (fun hc hF => ?_) (fun hc hF => ?_)
          · refine sxk 5 tabOK rfl ?_
            refine aops_nil ?_
            refine at_ret ?_
            refine bk_r ?_
            refine tk_r ?_
            obtain rfl := Option.some.inj hF
            refine ret_le rfl ?_
            exact (vle_refl _)
          · refine sxk 5 tabOK rfl ?_
            refine aops_nil ?_
            refine at_ret ?_
            refine bk_r ?_
            refine tk_r ?_
            obtain rfl := Option.some.inj hF
            refine ret_le rfl ?_
            exact (vle_refl _)
      · refine at_seq ?_
        refine at_keep [1, 2, 6] rfl ?_
        refine at_region ?_
        refine sxk 2 tabOK rfl ?_
        refine aops_nil ?_
        refine ct_if hF rfl (fun hc hF => ?_) (fun hc hF => ?_)
        · refine at_seq ?_
          refine at_region ?_
          refine sxk 4 tabOK rfl ?_
          refine ops_if (g := 38) hF rfl (fun hc hF => ?_) (fun hc hF => ?_)
          · refine sxk 5 tabOK rfl ?_
            refine ops_if (g := 43) hF rfl (fun hc hF => ?_) (fun hc hF => ?_)
            · refine sxk 5 tabOK rfl ?_
              refine aops_nil ?_
              refine at_ret ?_
              refine bk_r ?_
              refine tk_r ?_
              obtain rfl := Option.some.inj hF
              refine ret_le rfl ?_
              exact (vle_refl _)
            · refine sxk 5 tabOK rfl ?_
              refine aops_nil ?_
              refine at_ret ?_
              refine bk_r ?_
              refine tk_r ?_
              obtain rfl := Option.some.inj hF
              refine ret_le rfl ?_
              exact (vle_refl _)
          · refine sxk 10 tabOK rfl ?_
            refine aops_nil ?_
            refine at_ret ?_
            refine bk_r ?_
            refine tk_r ?_
            obtain rfl := Option.some.inj hF
            refine ret_le rfl ?_
            exact (vle_refl _)
        · refine at_seq ?_
          refine at_region ?_
          refine sxk 2 tabOK rfl ?_
          refine aops_nil ?_
          refine ct_if hF rfl (fun hc hF => ?_) (fun hc hF => ?_)
          · refine at_seq ?_
            refine at_region ?_
            refine sxk 4 tabOK rfl ?_
            refine ops_if (g := 53) hF rfl (fun hc hF => ?_) (fun hc hF => ?_)
            · refine sxk 2 tabOK rfl ?_
              obtain ⟨x3, hx3, hF⟩ := bnd_some hF
              refine call_eq (i_IsSymbol_ok x_1.text x3 hx3) rfl ((rlL_cons (rfl) rlL_nil)) rfl rfl ?_
              refine sxk 2 tabOK rfl ?_
              refine aops_nil ?_
              refine at_ret ?_
              refine bk_r ?_
              refine tk_r ?_
              obtain rfl := Option.some.inj hF
              refine ret_le rfl ?_
              exact (vle_refl _)
            · refine sxk 5 tabOK rfl ?_
              refine aops_nil ?_
              refine at_ret ?_
              refine bk_r ?_
              refine tk_r ?_
              obtain rfl := Option.some.inj hF
              refine ret_le rfl ?_
              exact (vle_refl _)
          · refine at_seq ?_
            refine at_region ?_
            refine sxk 2 tabOK rfl ?_
            refine aops_nil ?_
            refine ct_if hF rfl (fun hc hF => ?_) (fun hc hF => ?_)
            · refine at_seq ?_
              refine at_keep [2] rfl ?_
              refine at_region ?_
              refine sxk 4 tabOK rfl ?_
              refine ops_if (g := 63) hF rfl (fun hc hF => ?_) (fun hc hF => ?_)
              · refine sxk 2 tabOK rfl ?_
                obtain ⟨x3, hx3, hF⟩ := bnd_some hF
                refine call_eq (i_stringText_ok x_1.text x3 hx3) rfl ((rlL_cons (rfl) rlL_nil)) rfl rfl ?_
                refine sxk 2 tabOK rfl ?_
                refine aops_nil ?_
                refine at_ret ?_
                refine bk_r ?_
                refine tk_r ?_
                obtain rfl := Option.some.inj hF
                refine ret_le rfl ?_
                exact (vle_refl _)
              · refine sxk 5 tabOK rfl ?_
                refine aops_nil ?_
                refine at_ret ?_
                refine bk_r ?_
                refine tk_r ?_
                obtain rfl := Option.some.inj hF
                refine ret_le rfl ?_
                exact (vle_refl _)
            · refine at_seq ?_
              refine at_region ?_
              refine sxk 2 tabOK rfl ?_
              refine aops_nil ?_
              refine ct_if hF rfl (fun hc hF => ?_) (fun hc hF => ?_)
              · refine at_seq ?_
                refine at_keep [2] rfl ?_
                refine at_drawnM (id := 14) 8 (by kernel_rfl) (by kernel_rfl) ?_
                refine nx tabOK rfl ?_
                refine nx tabOK rfl ?_
                refine nx tabOK rfl ?_
                refine nx tabOK rfl ?_
                refine dn_if (g := 73) hF rfl (fun hc hF => ?_) (fun hc hF => ?_)
                · refine nx tabOK rfl ?_
                  refine nx tabOK rfl ?_
                  obtain ⟨x3, hx3, hF⟩ := bnd_some hF
                  refine n_call (i_PrimitiveNames_ok  x3 hx3) rfl (rlL_nil) (cStr.rl_psl (l := 1) (l' := 1) _ x3 rfl) rfl ?_
                  refine nv rfl (oc_len cStr tabOK rfl rfl rfl) rfl ?_
                  refine dn_nil rfl ?_
                  refine sxk 3 tabOK rfl ?_
                  refine ops_if (g := 80) hF rfl (fun hc hF => ?_) (fun hc hF => ?_)
                  · refine sxk 5 tabOK rfl ?_
                    refine aops_nil ?_
                    refine at_ret ?_
                    refine bk_r ?_
                    refine tk_r ?_
                    obtain rfl := Option.some.inj hF
                    refine ret_le rfl ?_
                    exact (vle_refl _)
                  · refine sxk 5 tabOK rfl ?_
                    refine aops_nil ?_
                    refine at_ret ?_
                    refine bk_r ?_
                    refine tk_r ?_
                    obtain rfl := Option.some.inj hF
                    refine ret_le rfl ?_
                    exact (vle_refl _)
                · refine nx tabOK rfl ?_
                  refine nx tabOK rfl ?_
                  refine nx tabOK rfl ?_
                  refine nx tabOK rfl ?_
                  refine dn_nil rfl ?_
                  refine sxk 8 tabOK rfl ?_
                  refine aops_nil ?_
                  refine at_ret ?_
                  refine bk_r ?_
                  refine tk_r ?_
                  obtain rfl := Option.some.inj hF
                  refine ret_le rfl ?_
                  exact (vle_refl _)
              · refine at_seq ?_
                refine at_keep [1, 2, 6] rfl ?_
                refine at_region ?_
                refine sxk 2 tabOK rfl ?_
                refine aops_nil ?_
                refine ct_if hF rfl (fun hc hF => ?_) (fun hc hF => ?_)
                · refine at_seq ?_
                  refine at_region ?_
                  refine sxk 4 tabOK rfl ?_
                  refine ops_if (g := 90) hF rfl (fun hc hF => ?_) (fun hc hF => ?_)
                  · refine sxk 6 tabOK rfl ?_
                    refine ops_if (g := 96) hF rfl (fun hc hF => ?_) (fun hc hF => ?_)
                    · refine sxk 5 tabOK rfl ?_
                      refine aops_nil ?_
                      refine at_ret ?_
                      refine bk_r ?_
                      refine tk_r ?_
                      obtain rfl := Option.some.inj hF
                      refine ret_le rfl ?_
                      exact (vle_refl _)
                    · refine sxk 5 tabOK rfl ?_
                      refine aops_nil ?_
                      refine at_ret ?_
                      refine bk_r ?_
                      refine tk_r ?_
                      obtain rfl := Option.some.inj hF
                      refine ret_le rfl ?_
                      exact (vle_refl _)
                  · refine sxk 11 tabOK rfl ?_
                    refine aops_nil ?_
                    refine at_ret ?_
                    refine bk_r ?_
                    refine tk_r ?_
                    obtain rfl := Option.some.inj hF
                    refine ret_le rfl ?_
                    exact (vle_refl _)
                · refine at_seq ?_
                  refine at_seq ?_
                  refine at_region ?_
                  refine sxk 2 tabOK rfl ?_
                  refine aops_nil ?_
                  refine ct_if hF rfl (fun hc hF => ?_) (fun hc hF => ?_)
                  · refine at_skip ?_
                    refine at_true rfl ?_
                    refine at_seq ?_
                    refine at_region ?_
                    refine sxk 4 tabOK rfl ?_
                    refine ops_if (g := 107) hF rfl (fun hc hF => ?_) (fun hc hF => ?_)
                    · refine sxk 5 tabOK rfl ?_
                      refine ops_if (g := 112) hF rfl (fun hc hF => ?_) (fun hc hF => ?_)
                      · refine sxk 5 tabOK rfl ?_
                        refine aops_nil ?_
                        refine at_ret ?_
                        refine bk_r ?_
                        refine tk_r ?_
                        obtain rfl := Option.some.inj hF
                        refine ret_le rfl ?_
                        exact (vle_refl _)
                      · refine sxk 5 tabOK rfl ?_
                        refine aops_nil ?_
                        refine at_ret ?_
                        refine bk_r ?_
                        refine tk_r ?_
                        obtain rfl := Option.some.inj hF
                        refine ret_le rfl ?_
                        exact (vle_refl _)
                    · refine sxk 10 tabOK rfl ?_
                      refine aops_nil ?_
                      refine at_ret ?_
                      refine bk_r ?_
                      refine tk_r ?_
                      obtain rfl := Option.some.inj hF
                      refine ret_le rfl ?_
                      exact (vle_refl _)
                  · refine at_region ?_
                    refine sxk 2 tabOK rfl ?_
                    refine aops_nil ?_
                    refine ct_if hF rfl (fun hc hF => ?_) (fun hc hF => ?_)
                    · refine at_seq ?_
                      refine at_keep [2] rfl ?_
                      refine at_region ?_
                      refine sxk 4 tabOK rfl ?_
                      refine ops_if (g := 107) hF rfl (fun hc hF => ?_) (fun hc hF => ?_)
                      · refine sxk 5 tabOK rfl ?_
                        refine ops_if (g := 112) hF rfl (fun hc hF => ?_) (fun hc hF => ?_)
                        · refine sxk 5 tabOK rfl ?_
                          refine aops_nil ?_
                          refine at_ret ?_
                          refine bk_r ?_
                          refine tk_r ?_
                          obtain rfl := Option.some.inj hF
                          refine ret_le rfl ?_
                          exact (vle_refl _)
                        · refine sxk 5 tabOK rfl ?_
                          refine aops_nil ?_
                          refine at_ret ?_
                          refine bk_r ?_
                          refine tk_r ?_
                          obtain rfl := Option.some.inj hF
                          refine ret_le rfl ?_
                          exact (vle_refl _)
                      · refine sxk 10 tabOK rfl ?_
                        refine aops_nil ?_
                        refine at_ret ?_
                        refine bk_r ?_
                        refine tk_r ?_
                        obtain rfl := Option.some.inj hF
                        refine ret_le rfl ?_
                        exact (vle_refl _)
                    · refine at_skip ?_
                      refine bk_n ?_
                      refine at_seq ?_
                      refine at_keep [] rfl ?_
                      refine at_region ?_
                      refine sxk 1 tabOK rfl ?_
                      refine aops_nil ?_
                      refine at_ret ?_
                      obtain rfl := Option.some.inj hF
                      refine ret_le rfl ?_
                      exact (vle_refl _)

theorem i_ArePairs_ok (pairs : List PPair) (q : Bool) (hF : i_ArePairs pairs = some q) : FC Try.prog 17 [.psl 0 6 (pairs.map (cPair.enc 0))] [] 3 (fun x _ => x = .bool q) := by
  refine FC.of_le ?_
  refine fc_body tabOK Try.func17 rfl Try.ntmps17 rfl rfl rfl ?_
  unfold i_ArePairs at hF
  refine at_seq ?_
  refine at_region ?_
  refine sxk 1 tabOK rfl ?_
  refine aops_nil ?_
  refine at_seq ?_
  refine at_seq ?_
  refine at_region ?_
  refine sxk 1 tabOK rfl ?_
  refine sv rfl (oc_len cPair tabOK rfl rfl rfl) rfl ?_
  refine sxk 1 tabOK rfl ?_
  refine aops_nil ?_
  refine ct_if hF rfl (fun hc hF => ?_) (fun hc hF => ?_)
  · refine at_seq ?_
    refine at_region ?_
    refine sxk 1 tabOK rfl ?_
    refine aops_nil ?_
    refine at_ret ?_
    refine tk_r ?_
    obtain rfl := Option.some.inj hF
    refine ret_le rfl ?_
    exact (vle_refl _)
  · refine at_skip ?_
    refine at_seq ?_
    refine at_seq ?_
    refine at_region ?_
    refine sxk 1 tabOK rfl ?_
    refine sv rfl (oc_len cPair tabOK rfl rfl rfl) rfl ?_
    refine sxk 1 tabOK rfl ?_
    refine aops_nil ?_
    refine at_block ?_
    refine cl_loop (σ := Int) (fun x2 => ⟨[(8, .psl 0 6 (pairs.map (cPair.enc 0))), (9, .int .i64 (pairs.length : Int)), (10, .int .i64 x2)], [], 3, 28, []⟩) (i_ArePairs_L1 pairs) LF 0 hF (le_down (down_all (ee_cons rfl rfl (cPair.ok_psl _ rfl) (ee_cons rfl rfl rfl (ee_cons rfl rfl rfl ee_nil))) he_nil rfl rfl rfl rfl)) ?_
    rintro lk_ x2 hF
    refine at_eq (s' := ⟨[(8, .psl 0 6 (pairs.map (cPair.enc 0))), (9, .int .i64 (pairs.length : Int)), (10, .int .i64 x2)], [], 3, 28, []⟩) rfl ?_
    replace hF : i_ArePairs_L1b pairs (itr (i_ArePairs_L1 pairs) lk_) x2 = some q := hF
    unfold i_ArePairs_L1b at hF
    generalize itr (i_ArePairs_L1 pairs) lk_ = go3 at hF ⊢
    refine at_seq ?_
    refine at_region ?_
    refine sxk 1 tabOK rfl ?_
    refine aops_nil ?_
    refine at_seq ?_
    refine ct_if hF rfl (fun hc hF => ?_) (fun hc hF => ?_)
    · refine at_skip ?_
      refine at_seq ?_
      refine at_block ?_
      refine at_seq ?_
      refine at_region ?_
      refine sxk 1 tabOK rfl ?_
      obtain ⟨x4, hn_x4, hF⟩ := bnd_some hF
      refine sv rfl (oc_addr cPair hn_x4 tabOK rfl rfl rfl rfl) rfl ?_
      refine sxk 4 tabOK rfl ?_
      refine aops_nil ?_
      refine at_seq ?_
      refine at_region ?_
      refine sxk 3 tabOK rfl ?_
      obtain ⟨x5, hx5, hF⟩ := bnd_some hF
      refine call_eq (i_isValue_ok x4.h x2 x5 hx5) rfl ((rlL_cons (cVal.rl_agg (l := 0) (l' := 0) _ x4.h rfl) (rlL_cons (rfl) rlL_nil))) rfl rfl ?_
      refine sxk 2 tabOK rfl ?_
      refine ops_ifnb (g := 20) hF rfl (fun hc hF => ?_) (fun hc hF => ?_)
      · refine sxk 6 tabOK rfl ?_
        refine aops_nil ?_
        refine at_true rfl ?_
        refine at_seq ?_
        refine at_keep [] rfl ?_
        refine at_region ?_
        refine sxk 1 tabOK rfl ?_
        refine aops_nil ?_
        refine at_ret ?_
        refine bk_r ?_
        refine tk_r ?_
        refine ll_r ?_
        refine bk_r ?_
        refine tk_r ?_
        obtain rfl := Option.some.inj hF
        refine ret_le rfl ?_
        exact (vle_refl _)
      · refine sxk 3 tabOK rfl ?_
        obtain ⟨x6, hx6, hF⟩ := bnd_some hF
        refine call_eq (i_isValue_ok x4.t x2 x6 hx6) rfl ((rlL_cons (cVal.rl_agg (l := 0) (l' := 0) _ x4.t rfl) (rlL_cons (rfl) rlL_nil))) rfl rfl ?_
        refine sxk 2 tabOK rfl ?_
        refine aops_nil ?_
        refine ct_bn hF rfl (fun hc hF => ?_) (fun hc hF => ?_)
        · refine at_seq ?_
          refine at_keep [] rfl ?_
          refine at_region ?_
          refine sxk 1 tabOK rfl ?_
          refine aops_nil ?_
          refine at_ret ?_
          refine bk_r ?_
          refine tk_r ?_
          refine ll_r ?_
          refine bk_r ?_
          refine tk_r ?_
          obtain rfl := Option.some.inj hF
          refine ret_le rfl ?_
          exact (vle_refl _)
        · refine at_skip ?_
          refine bk_n ?_
          refine at_keep [8, 9, 10, 21, 22, 23, 24, 25] rfl ?_
          refine at_region ?_
          obtain ⟨hb, hF⟩ := chk_some hF
          refine s_add tabOK rfl rfl rfl hb rfl ?_
          refine sxk 1 tabOK rfl ?_
          refine aops_nil ?_
          exact arr_loop ⟨(x2 + 1), hF, (le_down (down_all (ee_cons rfl rfl (cPair.ok_psl _ rfl) (ee_cons rfl rfl rfl (ee_cons rfl rfl rfl ee_nil))) he_nil rfl rfl rfl rfl))⟩
    · refine at_exit ?_
      refine tk_x ?_
      refine ll_x ?_
      refine bk_hit ?_
      refine at_seq ?_
      refine at_region ?_
      refine sxk 1 tabOK rfl ?_
      refine aops_nil ?_
      refine at_ret ?_
      obtain rfl := Option.some.inj hF
      refine ret_le rfl ?_
      exact (vle_refl _)

theorem i_IsValue_ok (x_1 : PVal) (pairs : List PPair) (q : Bool) (hF : i_IsValue x_1 pairs = some q) : FC Try.prog 22 [.agg (cVal.row 0 x_1), .psl 0 6 (pairs.map (cPair.enc 0))] [] 3 (fun x _ => x = .bool q) := by
  refine FC.of_le ?_
  refine fc_body tabOK Try.func22 rfl Try.ntmps22 rfl rfl rfl ?_
  unfold i_IsValue at hF
  refine at_seq ?_
  refine at_region ?_
  refine sxk 2 tabOK rfl ?_
  refine aops_nil ?_
  refine at_seq ?_
  refine at_region ?_
  refine sxk 1 tabOK rfl ?_
  obtain ⟨x3, hx3, hF⟩ := bnd_some hF
  refine call_eq (i_ArePairs_ok pairs x3 hx3) rfl ((rlL_cons (cPair.rl_psl (l := 0) (l' := 0) _ pairs rfl) rlL_nil)) rfl rfl ?_
  refine sxk 1 tabOK rfl ?_
  refine ops_ifb (g := 7) hF rfl (fun hc hF => ?_) (fun hc hF => ?_)
  · refine sxk 2 tabOK rfl ?_
    refine sv rfl (oc_len cPair tabOK rfl rfl rfl) rfl ?_
    obtain ⟨x4, hx4, hF⟩ := bnd_some hF
    refine call_eq (i_isValue_ok x_1 (pairs.length : Int) x4 hx4) rfl ((rlL_cons (cVal.rl_agg (l := 0) (l' := 0) _ x_1 rfl) (rlL_cons (rfl) rlL_nil))) rfl rfl ?_
    refine sxk 2 tabOK rfl ?_
    refine aops_nil ?_
    refine at_ret ?_
    obtain rfl := Option.some.inj hF
    refine ret_le rfl ?_
    exact (vle_refl _)
  · refine sxk 6 tabOK rfl ?_
    refine aops_nil ?_
    refine at_ret ?_
    obtain rfl := Option.some.inj hF
    refine ret_le rfl ?_
    exact (vle_refl _)

theorem i_itemsIn_bok (i_itemsIn : PDat → Option Int) (h_i_itemsIn : ∀ (d : PDat) (q : Int), i_itemsIn d = some q → FC Try.prog 75 [.agg (cDat.row 0 d)] [] 3 (fun x _ => x = .int .i64 q)) (d : PDat) (q : Int) (hF : i_itemsIn_b i_itemsIn d = some q) : FC Try.prog 75 [.agg (cDat.row 0 d)] [] 3 (fun x _ => x = .int .i64 q) := by
  refine FC.of_le ?_
  refine fc_body tabOK Try.func75 rfl Try.ntmps75 rfl rfl rfl ?_
  unfold i_itemsIn_b at hF
  refine at_seq ?_
  refine at_region ?_
  refine sxk 2 tabOK rfl ?_
  refine aops_nil ?_
  refine at_seq ?_
  refine at_region ?_
  refine sxk 2 tabOK rfl ?_
  refine sv rfl (oc_len cDat tabOK rfl rfl rfl) rfl ?_
  refine sxk 1 tabOK rfl ?_
  refine aops_nil ?_
  refine at_seq ?_
  refine at_seq ?_
  refine at_region ?_
  refine sxk 2 tabOK rfl ?_
  refine sv rfl (oc_len cDat tabOK rfl rfl rfl) rfl ?_
  refine sxk 1 tabOK rfl ?_
  refine aops_nil ?_
  refine at_block ?_
  refine cl_loop (σ := Int × Int) (fun v => match v with | (x3, x4) => ⟨[(3, .int .i64 x3), (10, .psl 0 4 (d.items.map (cDat.enc 0))), (11, .int .i64 (d.items.length : Int)), (12, .int .i64 x4)], [], 4, 22, []⟩) (i_itemsIn_L1 i_itemsIn d) LF ((d.items.length : Int), 0) hF (le_down (down_all (ee_cons rfl rfl rfl (ee_cons rfl rfl (cDat.ok_psl _ rfl) (ee_cons rfl rfl rfl (ee_cons rfl rfl rfl ee_nil)))) he_nil rfl rfl rfl rfl)) ?_
  rintro lk_ ⟨x3, x4⟩ hF
  refine at_eq (s' := ⟨[(3, .int .i64 x3), (10, .psl 0 4 (d.items.map (cDat.enc 0))), (11, .int .i64 (d.items.length : Int)), (12, .int .i64 x4)], [], 4, 22, []⟩) rfl ?_
  replace hF : i_itemsIn_L1b i_itemsIn d (itr (i_itemsIn_L1 i_itemsIn d) lk_) x3 x4 = some q := hF
  unfold i_itemsIn_L1b at hF
  generalize itr (i_itemsIn_L1 i_itemsIn d) lk_ = go5 at hF ⊢
  refine at_seq ?_
  refine at_region ?_
  refine sxk 1 tabOK rfl ?_
  refine aops_nil ?_
  refine at_seq ?_
  refine ct_if hF rfl (fun hc hF => ?_) (fun hc hF => ?_)
  · refine at_skip ?_
    refine at_seq ?_
    refine at_block ?_
    refine at_seq ?_
    refine at_region ?_
    obtain ⟨x6, hn_x6, hF⟩ := bnd_some hF
    refine sv rfl (oc_addr cDat hn_x6 tabOK rfl rfl rfl rfl) rfl ?_
    refine sxk 3 tabOK rfl ?_
    refine aops_nil ?_
    refine at_region ?_
    refine sxk 2 tabOK rfl ?_
    obtain ⟨x7, hx7, hF⟩ := bnd_some hF
    refine call_eq (h_i_itemsIn x6 x7 hx7) rfl ((rlL_cons (cDat.rl_agg (l := 0) (l' := 0) _ x6 rfl) rlL_nil)) rfl rfl ?_
    obtain ⟨hb, hF⟩ := chk_some hF
    refine s_add tabOK rfl rfl rfl hb rfl ?_
    refine sxk 1 tabOK rfl ?_
    refine aops_nil ?_
    refine bk_n ?_
    refine at_keep [3, 10, 11, 12] rfl ?_
    refine at_region ?_
    obtain ⟨hb, hF⟩ := chk_some hF
    refine s_add tabOK rfl rfl rfl hb rfl ?_
    refine sxk 1 tabOK rfl ?_
    refine aops_nil ?_
    exact arr_loop ⟨((x3 + x7), (x4 + 1)), hF, (le_down (down_all (ee_cons rfl rfl rfl (ee_cons rfl rfl (cDat.ok_psl _ rfl) (ee_cons rfl rfl rfl (ee_cons rfl rfl rfl ee_nil)))) he_nil rfl rfl rfl rfl))⟩
  · refine at_exit ?_
    refine tk_x ?_
    refine ll_x ?_
    refine bk_hit ?_
    refine at_seq ?_
    refine at_region ?_
    refine sxk 2 tabOK rfl ?_
    refine aops_nil ?_
    refine at_ret ?_
    obtain rfl := Option.some.inj hF
    refine ret_le rfl ?_
    exact (vle_refl _)

theorem i_itemsIn_all (n : Nat) : (∀ (d : PDat) (q : Int), i_itemsIn n d = some q → FC Try.prog 75 [.agg (cDat.row 0 d)] [] 3 (fun x _ => x = .int .i64 q)) := by
  induction n with
  | zero => exact fun _ q h => by cases h
  | succ n ih => exact fun d q h => i_itemsIn_bok (i_itemsIn n) ih d q h

theorem i_itemsIn_ok (n : Nat) (d : PDat) (q : Int) (hF : i_itemsIn n d = some q) : FC Try.prog 75 [.agg (cDat.row 0 d)] [] 3 (fun x _ => x = .int .i64 q) := (i_itemsIn_all n) d q hF

end Go.Proofs.Ytiecdekmiabmkaa
