/-
  Walks, made by wip/gen: A
-/
import Derived.Test.YtiecdekmiabmkaaGpA
import Derived.Test.YtiecdekmiabmkaaTab1
import Derived.Test.YtiecdekmiabmkaaLibE
set_option linter.unusedVariables false
set_option linter.unusedSimpArgs false
namespace Go.Proofs.Ytiecdekmiabmkaa
open Go.Abs
attribute [local irreducible] AT AOps FC DR DN
set_option maxRecDepth 10000
set_option maxHeartbeats 4000000

theorem i_EqualData_bok (i_EqualData : PDat → PDat → Option Bool) (h_i_EqualData : ∀ (a : PDat) (b : PDat) (q : Bool), i_EqualData a b = some q → FC Try.prog 65 [.agg (cDat.row 0 a), .agg (cDat.row 0 b)] [] 3 (fun x _ => x = .bool q)) (a : PDat) (b : PDat) (q : Bool) (hF : i_EqualData_b i_EqualData a b = some q) : FC Try.prog 65 [.agg (cDat.row 0 a), .agg (cDat.row 0 b)] [] 3 (fun x _ => x = .bool q) := by
  refine FC.of_le ?_
  refine fc_body tabOK Try.func65 rfl Try.ntmps65 rfl rfl rfl ?_
  unfold i_EqualData_b at hF
  refine at_seq ?_
  refine at_region ?_
  refine sxk 3 tabOK rfl ?_
  refine aops_nil ?_
  refine at_seq ?_
  refine at_seq ?_
  refine at_region ?_
  refine sxk 6 tabOK rfl ?_
  refine ops_ifn (g := 11) hF rfl (fun hc hF => ?_) (fun hc hF => ?_)
  · refine sxk 22 tabOK rfl ?_
    refine aops_nil ?_
    refine at_true rfl ?_
    refine at_seq ?_
    refine at_keep [] rfl ?_
    refine at_region ?_
    refine sxk 1 tabOK rfl ?_
    refine aops_nil ?_
    refine at_ret ?_
    refine tk_r ?_
    obtain rfl := Option.some.inj hF
    refine ret_le rfl ?_
    exact (vle_refl _)
  · refine sxk 7 tabOK rfl ?_
    refine ops_ifn (g := 18) hF rfl (fun hc hF => ?_) (fun hc hF => ?_)
    · refine sxk 15 tabOK rfl ?_
      refine aops_nil ?_
      refine at_true rfl ?_
      refine at_seq ?_
      refine at_keep [] rfl ?_
      refine at_region ?_
      refine sxk 1 tabOK rfl ?_
      refine aops_nil ?_
      refine at_ret ?_
      refine tk_r ?_
      obtain rfl := Option.some.inj hF
      refine ret_le rfl ?_
      exact (vle_refl _)
    · refine sxk 7 tabOK rfl ?_
      refine ops_ifn (g := 25) hF rfl (fun hc hF => ?_) (fun hc hF => ?_)
      · refine sxk 8 tabOK rfl ?_
        refine aops_nil ?_
        refine at_true rfl ?_
        refine at_seq ?_
        refine at_keep [] rfl ?_
        refine at_region ?_
        refine sxk 1 tabOK rfl ?_
        refine aops_nil ?_
        refine at_ret ?_
        refine tk_r ?_
        obtain rfl := Option.some.inj hF
        refine ret_le rfl ?_
        exact (vle_refl _)
      · refine sxk 2 tabOK rfl ?_
        refine sv rfl (oc_len cDat tabOK rfl rfl rfl) rfl ?_
        refine sxk 2 tabOK rfl ?_
        refine sv rfl (oc_len cDat tabOK rfl rfl rfl) rfl ?_
        refine sxk 2 tabOK rfl ?_
        refine aops_nil ?_
        refine ct_ifn hF rfl (fun hc hF => ?_) (fun hc hF => ?_)
        · refine at_seq ?_
          refine at_keep [] rfl ?_
          refine at_region ?_
          refine sxk 1 tabOK rfl ?_
          refine aops_nil ?_
          refine at_ret ?_
          refine tk_r ?_
          obtain rfl := Option.some.inj hF
          refine ret_le rfl ?_
          exact (vle_refl _)
        · refine at_skip ?_
          refine at_seq ?_
          refine at_seq ?_
          refine at_keep [2, 3] rfl ?_
          refine at_region ?_
          refine sxk 2 tabOK rfl ?_
          refine sv rfl (oc_len cDat tabOK rfl rfl rfl) rfl ?_
          refine sxk 1 tabOK rfl ?_
          refine aops_nil ?_
          refine at_block ?_
          refine cl_loop (σ := Int) (fun x4 => ⟨[(2, .ptr 3 1 0 0), (3, .ptr 4 1 0 0), (36, .int .i64 (a.items.length : Int)), (37, .int .i64 x4)], [(3, ⟨4, [cDat.row 0 a]⟩), (4, ⟨4, [cDat.row 0 b]⟩)], 5, 53, []⟩) (i_EqualData_L1 i_EqualData a b) LF 0 hF (le_down (down_all (ee_cons rfl rfl (Nat.le_of_ble_eq_true rfl) (ee_cons rfl rfl (Nat.le_of_ble_eq_true rfl) (ee_cons rfl rfl rfl (ee_cons rfl rfl rfl ee_nil)))) (he_cons rfl rfl rfl (row_one (cDat.row_ok _ rfl)) (he_cons rfl rfl rfl (row_one (cDat.row_ok _ rfl)) he_nil)) rfl rfl rfl rfl)) ?_
          rintro lk_ x4 hF
          refine at_eq (s' := ⟨[(2, .ptr 3 1 0 0), (3, .ptr 4 1 0 0), (36, .int .i64 (a.items.length : Int)), (37, .int .i64 x4)], [(3, ⟨4, [cDat.row 0 a]⟩), (4, ⟨4, [cDat.row 0 b]⟩)], 5, 53, []⟩) rfl ?_
          replace hF : i_EqualData_L1b i_EqualData a b (itr (i_EqualData_L1 i_EqualData a b) lk_) x4 = some q := hF
          unfold i_EqualData_L1b at hF
          generalize itr (i_EqualData_L1 i_EqualData a b) lk_ = go5 at hF ⊢
          refine at_seq ?_
          refine at_region ?_
          refine sxk 1 tabOK rfl ?_
          refine aops_nil ?_
          refine at_seq ?_
          refine ct_if hF rfl (fun hc hF => ?_) (fun hc hF => ?_)
          · refine at_skip ?_
            refine at_seq ?_
            refine at_block ?_
            refine at_seq ?_
            refine at_region ?_
            refine sxk 2 tabOK rfl ?_
            refine aops_nil ?_
            refine at_seq ?_
            refine at_drawnM (id := 6) 10 (by kernel_rfl) (by kernel_rfl) ?_
            refine nx tabOK rfl ?_
            refine nx tabOK rfl ?_
            refine nx tabOK rfl ?_
            obtain ⟨x6, hn_x6, hF⟩ := bnd_some hF
            refine nv rfl (oc_addr cDat hn_x6 tabOK rfl rfl rfl rfl) rfl ?_
            refine nx tabOK rfl ?_
            refine nx tabOK rfl ?_
            refine nx tabOK rfl ?_
            refine nx tabOK rfl ?_
            obtain ⟨x7, hn_x7, hF⟩ := bnd_some hF
            refine nv rfl (oc_addr cDat hn_x7 tabOK rfl rfl rfl rfl) rfl ?_
            refine nx tabOK rfl ?_
            refine dn_nil rfl ?_
            obtain ⟨x8, hx8, hF⟩ := bnd_some hF
            refine call_eq (h_i_EqualData x6 x7 x8 hx8) rfl ((rlL_cons (cDat.rl_agg (l := 0) (l' := 0) _ x6 rfl) (rlL_cons (cDat.rl_agg (l := 0) (l' := 0) _ x7 rfl) rlL_nil))) rfl rfl ?_
            refine sxk 1 tabOK rfl ?_
            refine aops_nil ?_
            refine ct_bn hF rfl (fun hc hF => ?_) (fun hc hF => ?_)
            · refine at_seq ?_
              refine at_keep [] rfl ?_
              refine at_region ?_
              refine sxk 1 tabOK rfl ?_
              refine aops_nil ?_
              refine at_ret ?_
              refine bk_r ?_
              refine tk_r ?_
              refine ll_r ?_
              refine bk_r ?_
              refine tk_r ?_
              obtain rfl := Option.some.inj hF
              refine ret_le rfl ?_
              exact (vle_refl _)
            · refine at_skip ?_
              refine bk_n ?_
              refine at_keep [2, 3, 36, 37] rfl ?_
              refine at_region ?_
              obtain ⟨hb, hF⟩ := chk_some hF
              refine s_add tabOK rfl rfl rfl hb rfl ?_
              refine sxk 1 tabOK rfl ?_
              refine aops_nil ?_
              exact arr_loop ⟨(x4 + 1), hF, (le_down (down_all (ee_cons rfl rfl (Nat.le_of_ble_eq_true rfl) (ee_cons rfl rfl (Nat.le_of_ble_eq_true rfl) (ee_cons rfl rfl rfl (ee_cons rfl rfl rfl ee_nil)))) (he_cons rfl rfl rfl (row_one (cDat.row_ok _ rfl)) (he_cons rfl rfl rfl (row_one (cDat.row_ok _ rfl)) he_nil)) rfl rfl rfl rfl))⟩
          · refine at_exit ?_
            refine tk_x ?_
            refine ll_x ?_
            refine bk_hit ?_
            refine at_seq ?_
            refine at_region ?_
            refine sxk 1 tabOK rfl ?_
            refine aops_nil ?_
            refine at_ret ?_
            obtain rfl := Option.some.inj hF
            refine ret_le rfl ?_
            exact (vle_refl _)

theorem i_EqualData_all (n : Nat) : (∀ (a : PDat) (b : PDat) (q : Bool), i_EqualData n a b = some q → FC Try.prog 65 [.agg (cDat.row 0 a), .agg (cDat.row 0 b)] [] 3 (fun x _ => x = .bool q)) := by
  induction n with
  | zero => exact fun _ _ q h => by cases h
  | succ n ih => exact fun a b q h => i_EqualData_bok (i_EqualData n) ih a b q h

theorem i_EqualData_ok (n : Nat) (a : PDat) (b : PDat) (q : Bool) (hF : i_EqualData n a b = some q) : FC Try.prog 65 [.agg (cDat.row 0 a), .agg (cDat.row 0 b)] [] 3 (fun x _ => x = .bool q) := (i_EqualData_all n) a b q hF

theorem i_isDigit_ok (b : Int) (q : Bool) (hF : i_isDigit b = some q) : FC Try.prog 122 [.int .u8 b] [] 3 (fun x _ => x = .bool q) := by
  refine FC.of_le ?_
  refine fc_body tabOK Try.func122 rfl Try.ntmps122 rfl rfl rfl ?_
  unfold i_isDigit at hF
  refine at_seq ?_
  refine at_region ?_
  refine sxk 1 tabOK rfl ?_
  refine aops_nil ?_
  refine at_seq ?_
  refine at_region ?_
  refine sxk 3 tabOK rfl ?_
  refine ops_if (g := 5) hF rfl (fun hc hF => ?_) (fun hc hF => ?_)
  · refine sxk 4 tabOK rfl ?_
    refine aops_nil ?_
    refine at_ret ?_
    obtain rfl := Option.some.inj hF
    refine ret_le rfl ?_
    exact (vle_refl _)
  · refine sxk 4 tabOK rfl ?_
    refine aops_nil ?_
    refine at_ret ?_
    obtain rfl := Option.some.inj hF
    refine ret_le rfl ?_
    exact (vle_refl _)

theorem i_symbolByte_ok (b : Int) (q : Bool) (hF : i_symbolByte b = some q) : FC Try.prog 123 [.int .u8 b] [] 3 (fun x _ => x = .bool q) := by
  refine FC.of_le ?_
  refine fc_body tabOK Try.func123 rfl Try.ntmps123 rfl rfl rfl ?_
  unfold i_symbolByte at hF
  refine at_seq ?_
  refine at_region ?_
  refine sxk 1 tabOK rfl ?_
  refine aops_nil ?_
  refine at_seq ?_
  refine at_seq ?_
  refine cl_midn (σ := Bool) (fun x2 => ⟨[(0, .int .u8 b), (16, .bool x2)], [], 3, 30, []⟩) (fun x2 => i_symbolByte_J1 b x2 = some q) ?_ ?_
  · refine at_region ?_
    refine sxk 3 tabOK rfl ?_
    refine ops_if (g := 5) hF rfl (fun hc hF => ?_) (fun hc hF => ?_)
    · refine sxk 4 tabOK rfl ?_
      refine ops_if (g := 9) hF rfl (fun hc hF => ?_) (fun hc hF => ?_)
      · refine sxk 7 tabOK rfl ?_
        refine aops_nil ?_
        exact arr_cut ⟨true, hF, (le_down (down_all (ee_cons rfl rfl rfl (ee_cons rfl rfl rfl ee_nil)) he_nil rfl rfl rfl rfl))⟩
      · refine sxk 3 tabOK rfl ?_
        refine ops_if (g := 12) hF rfl (fun hc hF => ?_) (fun hc hF => ?_)
        · refine sxk 4 tabOK rfl ?_
          refine aops_nil ?_
          exact arr_cut ⟨(decide (b ≤ 57)), hF, (le_down (down_all (ee_cons rfl rfl rfl (ee_cons rfl rfl rfl ee_nil)) he_nil rfl rfl rfl rfl))⟩
        · refine sxk 4 tabOK rfl ?_
          refine aops_nil ?_
          exact arr_cut ⟨false, hF, (le_down (down_all (ee_cons rfl rfl rfl (ee_cons rfl rfl rfl ee_nil)) he_nil rfl rfl rfl rfl))⟩
    · refine sxk 7 tabOK rfl ?_
      refine ops_if (g := 12) hF rfl (fun hc hF => ?_) (fun hc hF => ?_)
      · refine sxk 4 tabOK rfl ?_
        refine aops_nil ?_
        exact arr_cut ⟨(decide (b ≤ 57)), hF, (le_down (down_all (ee_cons rfl rfl rfl (ee_cons rfl rfl rfl ee_nil)) he_nil rfl rfl rfl rfl))⟩
      · refine sxk 4 tabOK rfl ?_
        refine aops_nil ?_
        exact arr_cut ⟨false, hF, (le_down (down_all (ee_cons rfl rfl rfl (ee_cons rfl rfl rfl ee_nil)) he_nil rfl rfl rfl rfl))⟩
  · rintro x2 hF
    refine at_eq (s' := ⟨[(0, .int .u8 b), (16, .bool x2)], [], 3, 30, []⟩) rfl ?_
    replace hF : i_symbolByte_J1 b x2 = some q := hF
    unfold i_symbolByte_J1 at hF
    refine ct_b hF rfl (fun hc hF => ?_) (fun hc hF => ?_)
    · refine at_seq ?_
      refine at_region ?_
      refine sxk 1 tabOK rfl ?_
      refine aops_nil ?_
      refine at_ret ?_
      refine tk_r ?_
      obtain rfl := Option.some.inj hF
      refine ret_le rfl ?_
      exact (vle_refl _)
    · refine at_skip ?_
      refine at_seq ?_
      refine at_seq ?_
      refine at_region ?_
      refine sxk 1 tabOK rfl ?_
      refine aops_nil ?_
      refine at_block ?_
      refine at_seq ?_
      refine at_seq ?_
      refine at_region ?_
      refine sxk 2 tabOK rfl ?_
      refine aops_nil ?_
      refine ct_if hF rfl (fun hc hF => ?_) (fun hc hF => ?_)
      · refine at_skip ?_
        refine at_true rfl ?_
        refine at_seq ?_
        refine at_region ?_
        refine sxk 1 tabOK rfl ?_
        refine aops_nil ?_
        refine at_ret ?_
        refine bk_r ?_
        refine tk_r ?_
        obtain rfl := Option.some.inj hF
        refine ret_le rfl ?_
        exact (vle_refl _)
      · refine at_seq ?_
        refine at_region ?_
        refine sxk 2 tabOK rfl ?_
        refine aops_nil ?_
        refine ct_if hF rfl (fun hc hF => ?_) (fun hc hF => ?_)
        · refine at_skip ?_
          refine at_true rfl ?_
          refine at_seq ?_
          refine at_region ?_
          refine sxk 1 tabOK rfl ?_
          refine aops_nil ?_
          refine at_ret ?_
          refine bk_r ?_
          refine tk_r ?_
          obtain rfl := Option.some.inj hF
          refine ret_le rfl ?_
          exact (vle_refl _)
        · refine at_seq ?_
          refine at_region ?_
          refine sxk 2 tabOK rfl ?_
          refine aops_nil ?_
          refine ct_if hF rfl (fun hc hF => ?_) (fun hc hF => ?_)
          · refine at_skip ?_
            refine at_true rfl ?_
            refine at_seq ?_
            refine at_keep [] rfl ?_
            refine at_region ?_
            refine sxk 1 tabOK rfl ?_
            refine aops_nil ?_
            refine at_ret ?_
            refine bk_r ?_
            refine tk_r ?_
            obtain rfl := Option.some.inj hF
            refine ret_le rfl ?_
            exact (vle_refl _)
          · refine at_seq ?_
            refine at_region ?_
            refine sxk 2 tabOK rfl ?_
            refine aops_nil ?_
            refine ct_if hF rfl (fun hc hF => ?_) (fun hc hF => ?_)
            · refine at_skip ?_
              refine at_true rfl ?_
              refine at_seq ?_
              refine at_keep [] rfl ?_
              refine at_region ?_
              refine sxk 1 tabOK rfl ?_
              refine aops_nil ?_
              refine at_ret ?_
              refine bk_r ?_
              refine tk_r ?_
              obtain rfl := Option.some.inj hF
              refine ret_le rfl ?_
              exact (vle_refl _)
            · refine at_seq ?_
              refine at_keep [17] rfl ?_
              refine at_region ?_
              refine sxk 2 tabOK rfl ?_
              refine aops_nil ?_
              refine ct_if hF rfl (fun hc hF => ?_) (fun hc hF => ?_)
              · refine at_skip ?_
                refine at_true rfl ?_
                refine at_seq ?_
                refine at_region ?_
                refine sxk 1 tabOK rfl ?_
                refine aops_nil ?_
                refine at_ret ?_
                refine bk_r ?_
                refine tk_r ?_
                obtain rfl := Option.some.inj hF
                refine ret_le rfl ?_
                exact (vle_refl _)
              · refine at_seq ?_
                refine at_region ?_
                refine sxk 2 tabOK rfl ?_
                refine aops_nil ?_
                refine ct_if hF rfl (fun hc hF => ?_) (fun hc hF => ?_)
                · refine at_skip ?_
                  refine at_true rfl ?_
                  refine at_seq ?_
                  refine at_region ?_
                  refine sxk 1 tabOK rfl ?_
                  refine aops_nil ?_
                  refine at_ret ?_
                  refine bk_r ?_
                  refine tk_r ?_
                  obtain rfl := Option.some.inj hF
                  refine ret_le rfl ?_
                  exact (vle_refl _)
                · refine at_seq ?_
                  refine at_region ?_
                  refine sxk 2 tabOK rfl ?_
                  refine aops_nil ?_
                  refine ct_if hF rfl (fun hc hF => ?_) (fun hc hF => ?_)
                  · refine at_skip ?_
                    refine at_true rfl ?_
                    refine at_seq ?_
                    refine at_region ?_
                    refine sxk 1 tabOK rfl ?_
                    refine aops_nil ?_
                    refine at_ret ?_
                    refine bk_r ?_
                    refine tk_r ?_
                    obtain rfl := Option.some.inj hF
                    refine ret_le rfl ?_
                    exact (vle_refl _)
                  · refine at_seq ?_
                    refine at_region ?_
                    refine sxk 2 tabOK rfl ?_
                    refine aops_nil ?_
                    refine ct_if hF rfl (fun hc hF => ?_) (fun hc hF => ?_)
                    · refine at_skip ?_
                      refine at_true rfl ?_
                      refine at_seq ?_
                      refine at_region ?_
                      refine sxk 1 tabOK rfl ?_
                      refine aops_nil ?_
                      refine at_ret ?_
                      refine bk_r ?_
                      refine tk_r ?_
                      obtain rfl := Option.some.inj hF
                      refine ret_le rfl ?_
                      exact (vle_refl _)
                    · refine at_seq ?_
                      refine at_region ?_
                      refine sxk 2 tabOK rfl ?_
                      refine aops_nil ?_
                      refine ct_if hF rfl (fun hc hF => ?_) (fun hc hF => ?_)
                      · refine at_skip ?_
                        refine at_true rfl ?_
                        refine at_seq ?_
                        refine at_keep [] rfl ?_
                        refine at_region ?_
                        refine sxk 1 tabOK rfl ?_
                        refine aops_nil ?_
                        refine at_ret ?_
                        refine bk_r ?_
                        refine tk_r ?_
                        obtain rfl := Option.some.inj hF
                        refine ret_le rfl ?_
                        exact (vle_refl _)
                      · refine at_seq ?_
                        refine at_region ?_
                        refine sxk 2 tabOK rfl ?_
                        refine aops_nil ?_
                        refine ct_if hF rfl (fun hc hF => ?_) (fun hc hF => ?_)
                        · refine at_skip ?_
                          refine at_true rfl ?_
                          refine at_seq ?_
                          refine at_keep [] rfl ?_
                          refine at_region ?_
                          refine sxk 1 tabOK rfl ?_
                          refine aops_nil ?_
                          refine at_ret ?_
                          refine bk_r ?_
                          refine tk_r ?_
                          obtain rfl := Option.some.inj hF
                          refine ret_le rfl ?_
                          exact (vle_refl _)
                        · refine at_keep [17] rfl ?_
                          refine at_region ?_
                          refine sxk 2 tabOK rfl ?_
                          refine aops_nil ?_
                          refine ct_if hF rfl (fun hc hF => ?_) (fun hc hF => ?_)
                          · refine at_seq ?_
                            refine at_region ?_
                            refine sxk 1 tabOK rfl ?_
                            refine aops_nil ?_
                            refine at_ret ?_
                            refine bk_r ?_
                            refine tk_r ?_
                            obtain rfl := Option.some.inj hF
                            refine ret_le rfl ?_
                            exact (vle_refl _)
                          · refine at_skip ?_
                            refine bk_n ?_
                            refine at_seq ?_
                            refine at_region ?_
                            refine sxk 1 tabOK rfl ?_
                            refine aops_nil ?_
                            refine at_ret ?_
                            obtain rfl := Option.some.inj hF
                            refine ret_le rfl ?_
                            exact (vle_refl _)

theorem i_IsSymbol_ok (s : List UInt8) (q : Bool) (hF : i_IsSymbol s = some q) : FC Try.prog 96 [.str s] [] 3 (fun x _ => x = .bool q) := by
  refine FC.of_le ?_
  refine fc_body tabOK Try.func96 rfl Try.ntmps96 rfl rfl rfl ?_
  unfold i_IsSymbol at hF
  refine at_seq ?_
  refine at_region ?_
  refine sxk 1 tabOK rfl ?_
  refine aops_nil ?_
  refine at_seq ?_
  refine at_seq ?_
  refine cl_midn (σ := Bool) (fun x2 => ⟨[(0, .str s), (31, .bool x2)], [], 3, 43, []⟩) (fun x2 => i_IsSymbol_J1 s x2 = some q) ?_ ?_
  · refine at_region ?_
    refine sxk 4 tabOK rfl ?_
    refine ops_if (g := 7) hF rfl (fun hc hF => ?_) (fun hc hF => ?_)
    · refine sxk 24 tabOK rfl ?_
      refine aops_nil ?_
      exact arr_cut ⟨true, hF, (le_down (down_all (ee_cons rfl rfl rfl (ee_cons rfl rfl rfl ee_nil)) he_nil rfl rfl rfl rfl))⟩
    · refine sxk 5 tabOK rfl ?_
      refine ops_if (g := 12) hF rfl (fun hc hF => ?_) (fun hc hF => ?_)
      · refine sxk 19 tabOK rfl ?_
        refine aops_nil ?_
        exact arr_cut ⟨true, hF, (le_down (down_all (ee_cons rfl rfl rfl (ee_cons rfl rfl rfl ee_nil)) he_nil rfl rfl rfl rfl))⟩
      · refine sxk 1 tabOK rfl ?_
        obtain ⟨x2, hn_x2, hF⟩ := bnd_some hF
        refine sv rfl (oc_byte hn_x2 tabOK rfl rfl rfl) rfl ?_
        obtain ⟨x3, hx3, hF⟩ := bnd_some hF
        refine call_eq (i_isDigit_ok (x2.toNat : Int) x3 hx3) rfl ((rlL_cons (rfl) rlL_nil)) rfl rfl ?_
        refine sxk 2 tabOK rfl ?_
        refine ops_ifb (g := 17) hF rfl (fun hc hF => ?_) (fun hc hF => ?_)
        · refine sxk 14 tabOK rfl ?_
          refine aops_nil ?_
          exact arr_cut ⟨true, hF, (le_down (down_all (ee_cons rfl rfl rfl (ee_cons rfl rfl rfl ee_nil)) he_nil rfl rfl rfl rfl))⟩
        · refine sxk 1 tabOK rfl ?_
          obtain ⟨x4, hn_x4, hF⟩ := bnd_some hF
          refine sv rfl (oc_byte hn_x4 tabOK rfl rfl rfl) rfl ?_
          refine sxk 2 tabOK rfl ?_
          refine ops_if (g := 21) hF rfl (fun hc hF => ?_) (fun hc hF => ?_)
          · refine sxk 5 tabOK rfl ?_
            refine ops_if (g := 26) hF rfl (fun hc hF => ?_) (fun hc hF => ?_)
            · refine sxk 1 tabOK rfl ?_
              obtain ⟨x5, hn_x5, hF⟩ := bnd_some hF
              refine sv rfl (oc_byte hn_x5 tabOK rfl rfl rfl) rfl ?_
              obtain ⟨x6, hx6, hF⟩ := bnd_some hF
              refine call_eq (i_isDigit_ok (x5.toNat : Int) x6 hx6) rfl ((rlL_cons (rfl) rlL_nil)) rfl rfl ?_
              refine sxk 2 tabOK rfl ?_
              refine aops_nil ?_
              exact arr_cut ⟨x6, hF, (le_down (down_all (ee_cons rfl rfl rfl (ee_cons rfl rfl rfl ee_nil)) he_nil rfl rfl rfl rfl))⟩
            · refine sxk 5 tabOK rfl ?_
              refine aops_nil ?_
              exact arr_cut ⟨false, hF, (le_down (down_all (ee_cons rfl rfl rfl (ee_cons rfl rfl rfl ee_nil)) he_nil rfl rfl rfl rfl))⟩
          · refine sxk 10 tabOK rfl ?_
            refine aops_nil ?_
            exact arr_cut ⟨false, hF, (le_down (down_all (ee_cons rfl rfl rfl (ee_cons rfl rfl rfl ee_nil)) he_nil rfl rfl rfl rfl))⟩
  · rintro x2 hF
    refine at_eq (s' := ⟨[(0, .str s), (31, .bool x2)], [], 3, 43, []⟩) rfl ?_
    replace hF : i_IsSymbol_J1 s x2 = some q := hF
    unfold i_IsSymbol_J1 at hF
    refine ct_b hF rfl (fun hc hF => ?_) (fun hc hF => ?_)
    · refine at_seq ?_
      refine at_region ?_
      refine sxk 1 tabOK rfl ?_
      refine aops_nil ?_
      refine at_ret ?_
      refine tk_r ?_
      obtain rfl := Option.some.inj hF
      refine ret_le rfl ?_
      exact (vle_refl _)
    · refine at_skip ?_
      refine at_seq ?_
      refine at_seq ?_
      refine at_region ?_
      refine sxk 1 tabOK rfl ?_
      refine aops_nil ?_
      refine at_block ?_
      refine cl_loop (σ := Int) (fun i3 => ⟨[(0, .str s), (3, .int .i64 i3)], [], 3, 43, []⟩) (i_IsSymbol_L2 s) LF 0 hF (le_down (down_all (ee_cons rfl rfl rfl (ee_cons rfl rfl rfl ee_nil)) he_nil rfl rfl rfl rfl)) ?_
      rintro lk_ i3 hF
      refine at_eq (s' := ⟨[(0, .str s), (3, .int .i64 i3)], [], 3, 43, []⟩) rfl ?_
      replace hF : i_IsSymbol_L2b s (itr (i_IsSymbol_L2 s) lk_) i3 = some q := hF
      unfold i_IsSymbol_L2b at hF
      generalize itr (i_IsSymbol_L2 s) lk_ = go4 at hF ⊢
      refine at_seq ?_
      refine at_seq ?_
      refine at_region ?_
      refine sxk 4 tabOK rfl ?_
      refine aops_nil ?_
      refine ct_if hF rfl (fun hc hF => ?_) (fun hc hF => ?_)
      · refine at_skip ?_
        refine at_seq ?_
        refine at_block ?_
        refine at_seq ?_
        refine at_region ?_
        refine sxk 2 tabOK rfl ?_
        obtain ⟨x5, hn_x5, hF⟩ := bnd_some hF
        refine sv rfl (oc_byte hn_x5 tabOK rfl rfl rfl) rfl ?_
        obtain ⟨x6, hx6, hF⟩ := bnd_some hF
        refine call_eq (i_symbolByte_ok (x5.toNat : Int) x6 hx6) rfl ((rlL_cons (rfl) rlL_nil)) rfl rfl ?_
        refine sxk 1 tabOK rfl ?_
        refine aops_nil ?_
        refine ct_bn hF rfl (fun hc hF => ?_) (fun hc hF => ?_)
        · refine at_seq ?_
          refine at_keep [] rfl ?_
          refine at_region ?_
          refine sxk 1 tabOK rfl ?_
          refine aops_nil ?_
          refine at_ret ?_
          refine bk_r ?_
          refine tk_r ?_
          refine ll_r ?_
          refine bk_r ?_
          refine tk_r ?_
          obtain rfl := Option.some.inj hF
          refine ret_le rfl ?_
          exact (vle_refl _)
        · refine at_skip ?_
          refine bk_n ?_
          refine at_keep [0, 3] rfl ?_
          refine at_region ?_
          refine sxk 1 tabOK rfl ?_
          obtain ⟨hb, hF⟩ := chk_some hF
          refine s_add tabOK rfl rfl rfl hb rfl ?_
          refine sxk 1 tabOK rfl ?_
          refine aops_nil ?_
          exact arr_loop ⟨(i3 + 1), hF, (le_down (down_all (ee_cons rfl rfl rfl (ee_cons rfl rfl rfl ee_nil)) he_nil rfl rfl rfl rfl))⟩
      · refine at_exit ?_
        refine tk_x ?_
        refine ll_x ?_
        refine bk_hit ?_
        refine at_seq ?_
        refine at_region ?_
        refine sxk 1 tabOK rfl ?_
        refine aops_nil ?_
        refine at_ret ?_
        obtain rfl := Option.some.inj hF
        refine ret_le rfl ?_
        exact (vle_refl _)

theorem i_stringText_ok (s : List UInt8) (q : Bool) (hF : i_stringText s = some q) : FC Try.prog 97 [.str s] [] 3 (fun x _ => x = .bool q) := by
  refine FC.of_le ?_
  refine fc_body tabOK Try.func97 rfl Try.ntmps97 rfl rfl rfl ?_
  unfold i_stringText at hF
  refine at_seq ?_
  refine at_region ?_
  refine sxk 1 tabOK rfl ?_
  refine aops_nil ?_
  refine at_seq ?_
  refine at_seq ?_
  refine at_region ?_
  refine sxk 3 tabOK rfl ?_
  refine aops_nil ?_
  refine ct_if hF rfl (fun hc hF => ?_) (fun hc hF => ?_)
  · refine at_seq ?_
    refine at_region ?_
    refine sxk 1 tabOK rfl ?_
    refine aops_nil ?_
    refine at_ret ?_
    refine tk_r ?_
    obtain rfl := Option.some.inj hF
    refine ret_le rfl ?_
    exact (vle_refl _)
  · refine at_skip ?_
    refine at_seq ?_
    refine at_seq ?_
    refine at_region ?_
    refine sxk 1 tabOK rfl ?_
    refine aops_nil ?_
    refine at_block ?_
    refine cl_loop (σ := Int) (fun i2 => ⟨[(0, .str s), (3, .int .i64 i2)], [], 3, 29, []⟩) (i_stringText_L1 s) LF 0 hF (le_down (down_all (ee_cons rfl rfl rfl (ee_cons rfl rfl rfl ee_nil)) he_nil rfl rfl rfl rfl)) ?_
    rintro lk_ i2 hF
    refine at_eq (s' := ⟨[(0, .str s), (3, .int .i64 i2)], [], 3, 29, []⟩) rfl ?_
    replace hF : i_stringText_L1b s (itr (i_stringText_L1 s) lk_) i2 = some q := hF
    unfold i_stringText_L1b at hF
    generalize itr (i_stringText_L1 s) lk_ = go3 at hF ⊢
    refine at_seq ?_
    refine at_seq ?_
    refine at_region ?_
    refine sxk 4 tabOK rfl ?_
    refine aops_nil ?_
    refine ct_if hF rfl (fun hc hF => ?_) (fun hc hF => ?_)
    · refine at_skip ?_
      refine at_seq ?_
      refine at_block ?_
      refine at_seq ?_
      refine at_region ?_
      refine sxk 2 tabOK rfl ?_
      obtain ⟨x4, hn_x4, hF⟩ := bnd_some hF
      refine sv rfl (oc_byte hn_x4 tabOK rfl rfl rfl) rfl ?_
      refine sxk 2 tabOK rfl ?_
      refine ops_if (g := 17) hF rfl (fun hc hF => ?_) (fun hc hF => ?_)
      · refine sxk 11 tabOK rfl ?_
        refine aops_nil ?_
        refine at_true rfl ?_
        refine at_seq ?_
        refine at_keep [] rfl ?_
        refine at_region ?_
        refine sxk 1 tabOK rfl ?_
        refine aops_nil ?_
        refine at_ret ?_
        refine bk_r ?_
        refine tk_r ?_
        refine ll_r ?_
        refine bk_r ?_
        refine tk_r ?_
        obtain rfl := Option.some.inj hF
        refine ret_le rfl ?_
        exact (vle_refl _)
      · refine sxk 2 tabOK rfl ?_
        obtain ⟨x5, hn_x5, hF⟩ := bnd_some hF
        refine sv rfl (oc_byte hn_x5 tabOK rfl rfl rfl) rfl ?_
        refine sxk 3 tabOK rfl ?_
        refine ops_if (g := 23) hF rfl (fun hc hF => ?_) (fun hc hF => ?_)
        · refine sxk 5 tabOK rfl ?_
          refine aops_nil ?_
          refine at_true rfl ?_
          refine at_seq ?_
          refine at_keep [] rfl ?_
          refine at_region ?_
          refine sxk 1 tabOK rfl ?_
          refine aops_nil ?_
          refine at_ret ?_
          refine bk_r ?_
          refine tk_r ?_
          refine ll_r ?_
          refine bk_r ?_
          refine tk_r ?_
          obtain rfl := Option.some.inj hF
          refine ret_le rfl ?_
          exact (vle_refl _)
        · refine sxk 2 tabOK rfl ?_
          obtain ⟨x6, hn_x6, hF⟩ := bnd_some hF
          refine sv rfl (oc_byte hn_x6 tabOK rfl rfl rfl) rfl ?_
          refine sxk 2 tabOK rfl ?_
          refine aops_nil ?_
          refine ct_if hF rfl (fun hc hF => ?_) (fun hc hF => ?_)
          · refine at_seq ?_
            refine at_keep [] rfl ?_
            refine at_region ?_
            refine sxk 1 tabOK rfl ?_
            refine aops_nil ?_
            refine at_ret ?_
            refine bk_r ?_
            refine tk_r ?_
            refine ll_r ?_
            refine bk_r ?_
            refine tk_r ?_
            obtain rfl := Option.some.inj hF
            refine ret_le rfl ?_
            exact (vle_refl _)
          · refine at_skip ?_
            refine bk_n ?_
            refine at_keep [0, 3, 18, 19, 20, 21, 24, 25, 26, 27] rfl ?_
            refine at_region ?_
            refine sxk 1 tabOK rfl ?_
            obtain ⟨hb, hF⟩ := chk_some hF
            refine s_add tabOK rfl rfl rfl hb rfl ?_
            refine sxk 1 tabOK rfl ?_
            refine aops_nil ?_
            exact arr_loop ⟨(i2 + 1), hF, (le_down (down_all (ee_cons rfl rfl rfl (ee_cons rfl rfl rfl ee_nil)) he_nil rfl rfl rfl rfl))⟩
    · refine at_exit ?_
      refine tk_x ?_
      refine ll_x ?_
      refine bk_hit ?_
      refine at_seq ?_
      refine at_region ?_
      refine sxk 1 tabOK rfl ?_
      refine aops_nil ?_
      refine at_ret ?_
      obtain rfl := Option.some.inj hF
      refine ret_le rfl ?_
      exact (vle_refl _)

theorem i_rightNode_ok (kind : Int) (number : Int) (text : List UInt8) (items : Int) (q : Bool) (hF : i_rightNode kind number text items = some q) : FC Try.prog 130 [.int .i64 kind, .int .i64 number, .str text, .int .i64 items] [] 3 (fun x _ => x = .bool q) := by
  refine FC.of_le ?_
  refine fc_body tabOK Try.func130 rfl Try.ntmps130 rfl rfl rfl ?_
  unfold i_rightNode at hF
  refine at_seq ?_
  refine at_region ?_
  refine sxk 1 tabOK rfl ?_
  refine aops_nil ?_
  refine at_seq ?_
  refine at_seq ?_
  refine at_region ?_
  refine sxk 1 tabOK rfl ?_
  refine aops_nil ?_
  refine at_block ?_
  refine at_seq ?_
  refine at_region ?_
  refine sxk 2 tabOK rfl ?_
  refine aops_nil ?_
  refine ct_if hF rfl (fun hc hF => ?_) (fun hc hF => ?_)
  · refine at_seq ?_
    refine at_region ?_
    refine sxk 3 tabOK rfl ?_
    refine ops_if (g := 14) hF rfl (fun hc hF => ?_) (fun hc hF => ?_)
    · refine sxk 4 tabOK rfl ?_
      refine aops_nil ?_
      refine at_ret ?_
      refine bk_r ?_
      refine tk_r ?_
      obtain rfl := Option.some.inj hF
      refine ret_le rfl ?_
      exact (vle_refl _)
    · refine sxk 4 tabOK rfl ?_
      refine aops_nil ?_
      refine at_ret ?_
      refine bk_r ?_
      refine tk_r ?_
      obtain rfl := Option.some.inj hF
      refine ret_le rfl ?_
      exact (vle_refl _)
  · refine at_seq ?_
    refine at_region ?_
    refine sxk 2 tabOK rfl ?_
    refine aops_nil ?_
    refine ct_if hF rfl (fun hc hF => ?_) (fun hc hF => ?_)
    · refine at_seq ?_
      refine at_keep [1, 2, 3] rfl ?_
      refine at_region ?_
      refine sxk 3 tabOK rfl ?_
      refine ops_if (g := 22) hF rfl (fun hc hF => ?_) (fun hc hF => ?_)
      · refine sxk 4 tabOK rfl ?_
        refine ops_if (g := 26) hF rfl (fun hc hF => ?_) (fun hc hF => ?_)
        · refine sxk 1 tabOK rfl ?_
          obtain ⟨x5, hx5, hF⟩ := bnd_some hF
          refine call_eq (i_IsSymbol_ok text x5 hx5) rfl ((rlL_cons (rfl) rlL_nil)) rfl rfl ?_
          refine sxk 2 tabOK rfl ?_
          refine aops_nil ?_
          refine at_ret ?_
          refine bk_r ?_
          refine tk_r ?_
          obtain rfl := Option.some.inj hF
          refine ret_le rfl ?_
          exact (vle_refl _)
        · refine sxk 4 tabOK rfl ?_
          refine aops_nil ?_
          refine at_ret ?_
          refine bk_r ?_
          refine tk_r ?_
          obtain rfl := Option.some.inj hF
          refine ret_le rfl ?_
          exact (vle_refl _)
      · refine sxk 8 tabOK rfl ?_
        refine aops_nil ?_
        refine at_ret ?_
        refine bk_r ?_
        refine tk_r ?_
        obtain rfl := Option.some.inj hF
        refine ret_le rfl ?_
        exact (vle_refl _)
    · refine at_seq ?_
      refine at_region ?_
      refine sxk 2 tabOK rfl ?_
      refine aops_nil ?_
      refine ct_if hF rfl (fun hc hF => ?_) (fun hc hF => ?_)
      · refine at_seq ?_
        refine at_keep [1, 2, 3] rfl ?_
        refine at_region ?_
        refine sxk 3 tabOK rfl ?_
        refine ops_if (g := 34) hF rfl (fun hc hF => ?_) (fun hc hF => ?_)
        · refine sxk 4 tabOK rfl ?_
          refine ops_if (g := 38) hF rfl (fun hc hF => ?_) (fun hc hF => ?_)
          · refine sxk 4 tabOK rfl ?_
            refine ops_if (g := 42) hF rfl (fun hc hF => ?_) (fun hc hF => ?_)
            · refine sxk 4 tabOK rfl ?_
              refine aops_nil ?_
              refine at_ret ?_
              refine bk_r ?_
              refine tk_r ?_
              obtain rfl := Option.some.inj hF
              refine ret_le rfl ?_
              exact (vle_refl _)
            · refine sxk 4 tabOK rfl ?_
              refine aops_nil ?_
              refine at_ret ?_
              refine bk_r ?_
              refine tk_r ?_
              obtain rfl := Option.some.inj hF
              refine ret_le rfl ?_
              exact (vle_refl _)
          · refine sxk 8 tabOK rfl ?_
            refine aops_nil ?_
            refine at_ret ?_
            refine bk_r ?_
            refine tk_r ?_
            obtain rfl := Option.some.inj hF
            refine ret_le rfl ?_
            exact (vle_refl _)
        · refine sxk 12 tabOK rfl ?_
          refine aops_nil ?_
          refine at_ret ?_
          refine bk_r ?_
          refine tk_r ?_
          obtain rfl := Option.some.inj hF
          refine ret_le rfl ?_
          exact (vle_refl _)
      · refine at_seq ?_
        refine at_keep [1, 2, 3, 9] rfl ?_
        refine at_region ?_
        refine sxk 2 tabOK rfl ?_
        refine aops_nil ?_
        refine ct_if hF rfl (fun hc hF => ?_) (fun hc hF => ?_)
        · refine at_seq ?_
          refine at_region ?_
          refine sxk 3 tabOK rfl ?_
          refine ops_if (g := 50) hF rfl (fun hc hF => ?_) (fun hc hF => ?_)
          · refine sxk 8 tabOK rfl ?_
            refine ops_if (g := 58) hF rfl (fun hc hF => ?_) (fun hc hF => ?_)
            · refine sxk 4 tabOK rfl ?_
              refine aops_nil ?_
              refine at_ret ?_
              refine bk_r ?_
              refine tk_r ?_
              obtain rfl := Option.some.inj hF
              refine ret_le rfl ?_
              exact (vle_refl _)
            · refine sxk 4 tabOK rfl ?_
              refine aops_nil ?_
              refine at_ret ?_
              refine bk_r ?_
              refine tk_r ?_
              obtain rfl := Option.some.inj hF
              refine ret_le rfl ?_
              exact (vle_refl _)
          · refine sxk 4 tabOK rfl ?_
            refine ops_if (g := 54) hF rfl (fun hc hF => ?_) (fun hc hF => ?_)
            · refine sxk 4 tabOK rfl ?_
              refine ops_if (g := 58) hF rfl (fun hc hF => ?_) (fun hc hF => ?_)
              · refine sxk 4 tabOK rfl ?_
                refine aops_nil ?_
                refine at_ret ?_
                refine bk_r ?_
                refine tk_r ?_
                obtain rfl := Option.some.inj hF
                refine ret_le rfl ?_
                exact (vle_refl _)
              · refine sxk 4 tabOK rfl ?_
                refine aops_nil ?_
                refine at_ret ?_
                refine bk_r ?_
                refine tk_r ?_
                obtain rfl := Option.some.inj hF
                refine ret_le rfl ?_
                exact (vle_refl _)
            · refine sxk 8 tabOK rfl ?_
              refine aops_nil ?_
              refine at_ret ?_
              refine bk_r ?_
              refine tk_r ?_
              obtain rfl := Option.some.inj hF
              refine ret_le rfl ?_
              exact (vle_refl _)
        · refine at_seq ?_
          refine at_region ?_
          refine sxk 2 tabOK rfl ?_
          refine aops_nil ?_
          refine ct_if hF rfl (fun hc hF => ?_) (fun hc hF => ?_)
          · refine at_seq ?_
            refine at_region ?_
            refine sxk 3 tabOK rfl ?_
            refine ops_if (g := 66) hF rfl (fun hc hF => ?_) (fun hc hF => ?_)
            · refine sxk 4 tabOK rfl ?_
              refine ops_if (g := 70) hF rfl (fun hc hF => ?_) (fun hc hF => ?_)
              · refine sxk 1 tabOK rfl ?_
                obtain ⟨x5, hx5, hF⟩ := bnd_some hF
                refine call_eq (i_stringText_ok text x5 hx5) rfl ((rlL_cons (rfl) rlL_nil)) rfl rfl ?_
                refine sxk 2 tabOK rfl ?_
                refine aops_nil ?_
                refine at_ret ?_
                refine bk_r ?_
                refine tk_r ?_
                obtain rfl := Option.some.inj hF
                refine ret_le rfl ?_
                exact (vle_refl _)
              · refine sxk 4 tabOK rfl ?_
                refine aops_nil ?_
                refine at_ret ?_
                refine bk_r ?_
                refine tk_r ?_
                obtain rfl := Option.some.inj hF
                refine ret_le rfl ?_
                exact (vle_refl _)
            · refine sxk 8 tabOK rfl ?_
              refine aops_nil ?_
              refine at_ret ?_
              refine bk_r ?_
              refine tk_r ?_
              obtain rfl := Option.some.inj hF
              refine ret_le rfl ?_
              exact (vle_refl _)
          · refine at_skip ?_
            refine bk_n ?_
            refine at_seq ?_
            refine at_keep [] rfl ?_
            refine at_region ?_
            refine sxk 1 tabOK rfl ?_
            refine aops_nil ?_
            refine at_ret ?_
            obtain rfl := Option.some.inj hF
            refine ret_le rfl ?_
            exact (vle_refl _)

theorem i_measure_bok (i_measure : PDat → Int → Int → Option (Bool × Int)) (h_i_measure : ∀ (d : PDat) (deep : Int) (nodes : Int) (q : Bool × Int), i_measure d deep nodes = some q → FC Try.prog 112 [.agg (cDat.row 0 d), .int .i64 deep, .ptr 0 1 0 0] [(0, ⟨1, [cInt.row 1 nodes]⟩)] 3 (fun x h2 => x = .bool q.1 ∧ hget h2 0 = some ⟨1, [cInt.row 1 q.2]⟩)) (d : PDat) (deep : Int) (nodes : Int) (q : Bool × Int) (hF : i_measure_b i_measure d deep nodes = some q) : FC Try.prog 112 [.agg (cDat.row 0 d), .int .i64 deep, .ptr 0 1 0 0] [(0, ⟨1, [cInt.row 1 nodes]⟩)] 3 (fun x h2 => x = .bool q.1 ∧ hget h2 0 = some ⟨1, [cInt.row 1 q.2]⟩) := by
  refine FC.of_le_lent ?_
  refine fc_body tabOK Try.func112 rfl Try.ntmps112 rfl rfl rfl ?_
  unfold i_measure_b at hF
  refine at_seq ?_
  refine at_region ?_
  refine sxk 2 tabOK rfl ?_
  refine aops_nil ?_
  refine at_seq ?_
  refine at_region ?_
  refine sxk 3 tabOK rfl ?_
  obtain ⟨hb, hF⟩ := chk_some hF
  refine s_add tabOK rfl rfl rfl hb rfl ?_
  refine sxk 2 tabOK rfl ?_
  refine aops_nil ?_
  refine at_seq ?_
  refine at_seq ?_
  refine at_keep [1, 2, 3] rfl ?_
  refine at_region ?_
  refine sxk 3 tabOK rfl ?_
  refine ops_if (g := 16) hF rfl (fun hc hF => ?_) (fun hc hF => ?_)
  · refine sxk 18 tabOK rfl ?_
    refine aops_nil ?_
    refine at_true rfl ?_
    refine at_seq ?_
    refine at_keep [] rfl ?_
    refine at_region ?_
    refine sxk 1 tabOK rfl ?_
    refine aops_nil ?_
    refine at_ret ?_
    refine tk_r ?_
    obtain rfl := Option.some.inj hF
    exact ret_lent rfl ((vle_refl _)) rfl
  · refine sxk 6 tabOK rfl ?_
    refine ops_if (g := 22) hF rfl (fun hc hF => ?_) (fun hc hF => ?_)
    · refine sxk 12 tabOK rfl ?_
      refine aops_nil ?_
      refine at_true rfl ?_
      refine at_seq ?_
      refine at_keep [] rfl ?_
      refine at_region ?_
      refine sxk 1 tabOK rfl ?_
      refine aops_nil ?_
      refine at_ret ?_
      refine tk_r ?_
      obtain rfl := Option.some.inj hF
      exact ret_lent rfl ((vle_refl _)) rfl
    · refine sxk 8 tabOK rfl ?_
      refine sv rfl (oc_len cDat tabOK rfl rfl rfl) rfl ?_
      obtain ⟨x5, hx5, hF⟩ := bnd_some hF
      refine call_eq (i_rightNode_ok d.kind d.number d.text (d.items.length : Int) x5 hx5) rfl ((rlL_cons (rfl) (rlL_cons (rfl) (rlL_cons (rfl) (rlL_cons (rfl) rlL_nil))))) rfl rfl ?_
      refine sxk 2 tabOK rfl ?_
      refine aops_nil ?_
      refine ct_bn hF rfl (fun hc hF => ?_) (fun hc hF => ?_)
      · refine at_seq ?_
        refine at_keep [] rfl ?_
        refine at_region ?_
        refine sxk 1 tabOK rfl ?_
        refine aops_nil ?_
        refine at_ret ?_
        refine tk_r ?_
        obtain rfl := Option.some.inj hF
        exact ret_lent rfl ((vle_refl _)) rfl
      · refine at_skip ?_
        refine at_seq ?_
        refine at_seq ?_
        refine at_keep [1, 2, 3] rfl ?_
        refine at_region ?_
        refine sxk 2 tabOK rfl ?_
        refine sv rfl (oc_len cDat tabOK rfl rfl rfl) rfl ?_
        refine sxk 1 tabOK rfl ?_
        refine aops_nil ?_
        refine at_block ?_
        refine cl_loop (σ := Int × Int) (fun v => match v with | (x6, nodes7) => ⟨[(1, .int .i64 deep), (2, .ptr 0 1 0 0), (36, .psl 0 4 (d.items.map (cDat.enc 0))), (37, .int .i64 (d.items.length : Int)), (38, .int .i64 x6)], [(0, ⟨1, [[.int .i64 nodes7]]⟩)], 4, 49, []⟩) (i_measure_L1 i_measure d deep) LF (0, (nodes + 1)) hF (le_down (down_all (ee_cons rfl rfl rfl (ee_cons rfl rfl (Nat.le_of_ble_eq_true rfl) (ee_cons rfl rfl (cDat.ok_psl _ rfl) (ee_cons rfl rfl rfl (ee_cons rfl rfl rfl ee_nil))))) (he_cons rfl rfl rfl (row_one ⟨rfl, trivial⟩) he_nil) rfl rfl rfl rfl)) ?_
        rintro lk_ ⟨x6, nodes7⟩ hF
        refine at_eq (s' := ⟨[(1, .int .i64 deep), (2, .ptr 0 1 0 0), (36, .psl 0 4 (d.items.map (cDat.enc 0))), (37, .int .i64 (d.items.length : Int)), (38, .int .i64 x6)], [(0, ⟨1, [[.int .i64 nodes7]]⟩)], 4, 49, []⟩) rfl ?_
        replace hF : i_measure_L1b i_measure d deep (itr (i_measure_L1 i_measure d deep) lk_) x6 nodes7 = some q := hF
        unfold i_measure_L1b at hF
        generalize itr (i_measure_L1 i_measure d deep) lk_ = go8 at hF ⊢
        refine at_seq ?_
        refine at_region ?_
        refine sxk 1 tabOK rfl ?_
        refine aops_nil ?_
        refine at_seq ?_
        refine ct_if hF rfl (fun hc hF => ?_) (fun hc hF => ?_)
        · refine at_skip ?_
          refine at_seq ?_
          refine at_block ?_
          refine at_seq ?_
          refine at_region ?_
          obtain ⟨x9, hn_x9, hF⟩ := bnd_some hF
          refine sv rfl (oc_addr cDat hn_x9 tabOK rfl rfl rfl rfl) rfl ?_
          refine sxk 3 tabOK rfl ?_
          refine aops_nil ?_
          refine at_seq ?_
          refine at_region ?_
          refine sxk 2 tabOK rfl ?_
          obtain ⟨hb, hF⟩ := chk_some hF
          refine s_add tabOK rfl rfl rfl hb rfl ?_
          refine sxk 1 tabOK rfl ?_
          obtain ⟨x10, hx10, hF⟩ := bnd_some hF
          refine call_lend1 0 (h_i_measure x9 (deep + 1) nodes7 x10 hx10) rfl (rnL_cons (rn_of_rl _ (cDat.rl_agg (l := 0) (l' := 0) _ x9 rfl)) (rnL_cons rfl (rnL_cons rfl rnL_nil))) rfl rfl rfl rfl rfl ?_
          refine sxk 1 tabOK rfl ?_
          refine aops_nil ?_
          refine ct_bn hF rfl (fun hc hF => ?_) (fun hc hF => ?_)
          · refine at_seq ?_
            refine at_keep [] rfl ?_
            refine at_region ?_
            refine sxk 1 tabOK rfl ?_
            refine aops_nil ?_
            refine at_ret ?_
            refine bk_r ?_
            refine tk_r ?_
            refine ll_r ?_
            refine bk_r ?_
            refine tk_r ?_
            obtain rfl := Option.some.inj hF
            exact ret_lent rfl ((vle_refl _)) rfl
          · refine at_skip ?_
            refine bk_n ?_
            refine at_keep [1, 2, 36, 37, 38] rfl ?_
            refine at_region ?_
            obtain ⟨hb, hF⟩ := chk_some hF
            refine s_add tabOK rfl rfl rfl hb rfl ?_
            refine sxk 1 tabOK rfl ?_
            refine aops_nil ?_
            exact arr_loop ⟨((x6 + 1), x10.2), hF, (le_down (down_all (ee_cons rfl rfl rfl (ee_cons rfl rfl (Nat.le_of_ble_eq_true rfl) (ee_cons rfl rfl (cDat.ok_psl _ rfl) (ee_cons rfl rfl rfl (ee_cons rfl rfl rfl ee_nil))))) (he_cons rfl rfl rfl (row_one ⟨rfl, trivial⟩) he_nil) rfl rfl rfl rfl))⟩
        · refine at_exit ?_
          refine tk_x ?_
          refine ll_x ?_
          refine bk_hit ?_
          refine at_seq ?_
          refine at_region ?_
          refine sxk 1 tabOK rfl ?_
          refine aops_nil ?_
          refine at_ret ?_
          obtain rfl := Option.some.inj hF
          exact ret_lent rfl ((vle_refl _)) rfl

theorem i_measure_all (n : Nat) : (∀ (d : PDat) (deep : Int) (nodes : Int) (q : Bool × Int), i_measure n d deep nodes = some q → FC Try.prog 112 [.agg (cDat.row 0 d), .int .i64 deep, .ptr 0 1 0 0] [(0, ⟨1, [cInt.row 1 nodes]⟩)] 3 (fun x h2 => x = .bool q.1 ∧ hget h2 0 = some ⟨1, [cInt.row 1 q.2]⟩)) := by
  induction n with
  | zero => exact fun _ _ _ q h => by cases h
  | succ n ih => exact fun d deep nodes q h => i_measure_bok (i_measure n) ih d deep nodes q h

theorem i_measure_ok (n : Nat) (d : PDat) (deep : Int) (nodes : Int) (q : Bool × Int) (hF : i_measure n d deep nodes = some q) : FC Try.prog 112 [.agg (cDat.row 0 d), .int .i64 deep, .ptr 0 1 0 0] [(0, ⟨1, [cInt.row 1 nodes]⟩)] 3 (fun x h2 => x = .bool q.1 ∧ hget h2 0 = some ⟨1, [cInt.row 1 q.2]⟩) := (i_measure_all n) d deep nodes q hF

theorem i_IsDatum_ok (d : PDat) (q : Bool) (hF : i_IsDatum d = some q) : FC Try.prog 74 [.agg (cDat.row 0 d)] [] 3 (fun x _ => x = .bool q) := by
  refine FC.of_le ?_
  refine fc_body tabOK Try.func74 rfl Try.ntmps74 rfl rfl rfl ?_
  unfold i_IsDatum at hF
  refine at_seq ?_
  refine at_region ?_
  refine sxk 2 tabOK rfl ?_
  refine aops_nil ?_
  refine at_seq ?_
  refine at_region ?_
  refine sxk 2 tabOK rfl ?_
  refine aops_nil ?_
  refine at_seq ?_
  refine at_region ?_
  refine sxk 1 tabOK rfl ?_
  obtain ⟨x2, hx2, hF⟩ := bnd_some hF
  refine call_lend1 4 (i_measure_ok RF d 1 0 x2 hx2) rfl (rnL_cons (rn_of_rl _ (cDat.rl_agg (l := 0) (l' := 0) _ d rfl)) (rnL_cons rfl (rnL_cons rfl rnL_nil))) rfl rfl rfl rfl rfl ?_
  refine sxk 1 tabOK rfl ?_
  refine aops_nil ?_
  refine at_ret ?_
  obtain rfl := Option.some.inj hF
  refine ret_le rfl ?_
  exact (vle_refl _)

theorem i_instrOk_ok (x_1 : PInstr) (q : Bool) (hF : i_instrOk x_1 = some q) : FC Try.prog 117 [.agg (cInstr.row 0 x_1)] [] 3 (fun x _ => x = .bool q) := by
  refine FC.of_le ?_
  refine fc_body tabOK Try.func117 rfl Try.ntmps117 rfl rfl rfl ?_
  unfold i_instrOk at hF
  refine at_seq ?_
  refine at_region ?_
  refine sxk 2 tabOK rfl ?_
  refine aops_nil ?_
  refine at_seq ?_
  refine at_seq ?_
  refine at_region ?_
  refine sxk 4 tabOK rfl ?_
  refine ops_if (g := 6) hF rfl (fun hc hF => ?_) (fun hc hF => ?_)
  · refine sxk 4 tabOK rfl ?_
    refine aops_nil ?_
    refine at_true rfl ?_
    refine at_seq ?_
    refine at_keep [] rfl ?_
    refine at_region ?_
    refine sxk 1 tabOK rfl ?_
    refine aops_nil ?_
    refine at_ret ?_
    refine tk_r ?_
    obtain rfl := Option.some.inj hF
    refine ret_le rfl ?_
    exact (vle_refl _)
  · refine sxk 4 tabOK rfl ?_
    refine aops_nil ?_
    refine ct_if hF rfl (fun hc hF => ?_) (fun hc hF => ?_)
    · refine at_seq ?_
      refine at_keep [] rfl ?_
      refine at_region ?_
      refine sxk 1 tabOK rfl ?_
      refine aops_nil ?_
      refine at_ret ?_
      refine tk_r ?_
      obtain rfl := Option.some.inj hF
      refine ret_le rfl ?_
      exact (vle_refl _)
    · refine at_skip ?_
      refine at_seq ?_
      refine at_seq ?_
      refine at_keep [1] rfl ?_
      refine at_region ?_
      refine sxk 3 tabOK rfl ?_
      refine aops_nil ?_
      refine ct_if hF rfl (fun hc hF => ?_) (fun hc hF => ?_)
      · refine at_seq ?_
        refine at_region ?_
        refine sxk 4 tabOK rfl ?_
        refine ops_if (g := 17) hF rfl (fun hc hF => ?_) (fun hc hF => ?_)
        · refine sxk 2 tabOK rfl ?_
          obtain ⟨x2, hx2, hF⟩ := bnd_some hF
          refine call_eq (i_IsDatum_ok x_1.d x2 hx2) rfl ((rlL_cons (cDat.rl_agg (l := 0) (l' := 0) _ x_1.d rfl) rlL_nil)) rfl rfl ?_
          refine sxk 2 tabOK rfl ?_
          refine aops_nil ?_
          refine at_ret ?_
          refine tk_r ?_
          obtain rfl := Option.some.inj hF
          refine ret_le rfl ?_
          exact (vle_refl _)
        · refine sxk 5 tabOK rfl ?_
          refine aops_nil ?_
          refine at_ret ?_
          refine tk_r ?_
          obtain rfl := Option.some.inj hF
          refine ret_le rfl ?_
          exact (vle_refl _)
      · refine at_skip ?_
        refine at_seq ?_
        refine at_seq ?_
        refine at_region ?_
        refine sxk 2 tabOK rfl ?_
        refine sv rfl (ov_build tabOK rfl rfl) rfl ?_
        refine ops_le (le_slot (y := .agg [.int .i64 0, .int .i64 0, .str ([] : List UInt8), .psl 1 4 ([].map (cDat.enc 1))]) 24 rfl (vle_agg (.cons (vle_refl _) (.cons (vle_refl _) (.cons (vle_refl _) (.cons (vle_nil _ _) .nil))))) rfl) ?_
        obtain ⟨x2, hx2, hF⟩ := bnd_some hF
        refine call_eq (i_EqualData_ok RF x_1.d (PDat.mk 0 0 ([] : List UInt8) []) x2 hx2) rfl ((rlL_cons (cDat.rl_agg (l := 0) (l' := 0) _ x_1.d rfl) (rlL_cons (rl_aggL (rlL_cons (rfl) (rlL_cons (rfl) (rlL_cons (rfl) (rlL_cons (cDat.rl_psl (l := 1) (l' := 0) _ [] rfl) rlL_nil))))) rlL_nil))) rfl rfl ?_
        refine sxk 2 tabOK rfl ?_
        refine ops_ifnb (g := 27) hF rfl (fun hc hF => ?_) (fun hc hF => ?_)
        · refine sxk 9 tabOK rfl ?_
          refine aops_nil ?_
          refine at_true rfl ?_
          refine at_seq ?_
          refine at_keep [] rfl ?_
          refine at_region ?_
          refine sxk 1 tabOK rfl ?_
          refine aops_nil ?_
          refine at_ret ?_
          refine tk_r ?_
          obtain rfl := Option.some.inj hF
          refine ret_le rfl ?_
          exact (vle_refl _)
        · refine sxk 5 tabOK rfl ?_
          refine ops_if (g := 32) hF rfl (fun hc hF => ?_) (fun hc hF => ?_)
          · refine sxk 4 tabOK rfl ?_
            refine aops_nil ?_
            refine at_true rfl ?_
            refine at_seq ?_
            refine at_keep [] rfl ?_
            refine at_region ?_
            refine sxk 1 tabOK rfl ?_
            refine aops_nil ?_
            refine at_ret ?_
            refine tk_r ?_
            obtain rfl := Option.some.inj hF
            refine ret_le rfl ?_
            exact (vle_refl _)
          · refine sxk 4 tabOK rfl ?_
            refine aops_nil ?_
            refine ct_if hF rfl (fun hc hF => ?_) (fun hc hF => ?_)
            · refine at_seq ?_
              refine at_keep [] rfl ?_
              refine at_region ?_
              refine sxk 1 tabOK rfl ?_
              refine aops_nil ?_
              refine at_ret ?_
              refine tk_r ?_
              obtain rfl := Option.some.inj hF
              refine ret_le rfl ?_
              exact (vle_refl _)
            · refine at_skip ?_
              refine at_seq ?_
              refine at_keep [1] rfl ?_
              refine at_region ?_
              refine sxk 4 tabOK rfl ?_
              refine ops_if (g := 40) hF rfl (fun hc hF => ?_) (fun hc hF => ?_)
              · refine sxk 10 tabOK rfl ?_
                refine aops_nil ?_
                refine at_ret ?_
                obtain rfl := Option.some.inj hF
                refine ret_le rfl ?_
                exact (vle_refl _)
              · refine sxk 4 tabOK rfl ?_
                refine ops_ifn (g := 44) hF rfl (fun hc hF => ?_) (fun hc hF => ?_)
                · refine sxk 6 tabOK rfl ?_
                  refine aops_nil ?_
                  refine at_ret ?_
                  obtain rfl := Option.some.inj hF
                  refine ret_le rfl ?_
                  exact (vle_refl _)
                · refine sxk 6 tabOK rfl ?_
                  refine aops_nil ?_
                  refine at_ret ?_
                  obtain rfl := Option.some.inj hF
                  refine ret_le rfl ?_
                  exact (vle_refl _)

theorem i_PrimitiveNames_ok (q : List (List UInt8)) (hF : i_PrimitiveNames = some q) : FC Try.prog 95 [] [] 3 (fun x _ => x = .psl 1 1 (q.map (cStr.enc 1))) := by
  refine FC.of_le ?_
  refine fc_body tabOK Try.func95 rfl Try.ntmps95 rfl rfl rfl ?_
  unfold i_PrimitiveNames at hF
  refine at_seq ?_
  refine at_region ?_
  refine sxk 1 tabOK rfl ?_
  refine aops_nil ?_
  refine at_seq ?_
  refine at_region ?_
  refine sc_slit cStr (l := 0) ([([43] : List UInt8), ([45] : List UInt8), ([42] : List UInt8), ([61] : List UInt8), ([60] : List UInt8), ([99, 111, 110, 115] : List UInt8), ([99, 97, 114] : List UInt8), ([99, 100, 114] : List UInt8), ([110, 117, 108, 108, 63] : List UInt8), ([112, 97, 105, 114, 63] : List UInt8), ([110, 117, 109, 98, 101, 114, 63] : List UInt8), ([101, 113, 63] : List UInt8), ([110, 111, 116] : List UInt8), ([100, 105, 115, 112, 108, 97, 121] : List UInt8)] : List (List UInt8)) tabOK rfl rfl rfl rfl rfl rfl rfl ?_
  refine sxk 1 tabOK rfl ?_
  refine aops_nil ?_
  refine at_le (le_freeze 0 rfl rfl (by simp) rfl) ?_
  refine at_ret ?_
  obtain rfl := Option.some.inj hF
  refine ret_le rfl ?_
  exact (vle_refl _)

theorem i_operandOk_ok (m : PImage) (c : PCode) (k : Int) (x_1 : PInstr) (q : Bool) (hF : i_operandOk m c k x_1 = some q) : FC Try.prog 118 [.agg (cImage.row 0 m), .agg (cCode.row 0 c), .int .i64 k, .agg (cInstr.row 0 x_1)] [] 3 (fun x _ => x = .bool q) := by
  refine FC.of_le ?_
  refine fc_body tabOK Try.func118 rfl Try.ntmps118 rfl rfl rfl ?_
  unfold i_operandOk at hF
  refine at_seq ?_
  refine at_region ?_
  refine sxk 4 tabOK rfl ?_
  refine aops_nil ?_
  refine at_seq ?_
  refine at_seq ?_
  refine at_region ?_
  refine sxk 2 tabOK rfl ?_
  refine aops_nil ?_
  refine at_block ?_
  refine at_seq ?_
  refine at_region ?_
  refine sxk 2 tabOK rfl ?_
  refine aops_nil ?_
  refine ct_if hF rfl (fun hc hF => ?_) (fun hc hF => ?_)
  · refine at_seq ?_
    refine at_keep [7] rfl ?_
    refine at_drawnM (id := 3) 4 (by kernel_rfl) (by kernel_rfl) ?_
    refine nx tabOK rfl ?_
    refine nx tabOK rfl ?_
    obtain ⟨x5, hx5, hF⟩ := bnd_some hF
    refine n_call (i_PrimitiveNames_ok  x5 hx5) rfl (rlL_nil) (cStr.rl_psl (l := 1) (l' := 1) _ x5 rfl) rfl ?_
    refine nv rfl (oc_len cStr tabOK rfl rfl rfl) rfl ?_
    refine dn_nil rfl ?_
    refine sxk 2 tabOK rfl ?_
    refine aops_nil ?_
    refine at_ret ?_
    refine bk_r ?_
    refine tk_r ?_
    obtain rfl := Option.some.inj hF
    refine ret_le rfl ?_
    exact (vle_refl _)
  · refine at_seq ?_
    refine at_seq ?_
    refine at_keep [2, 4, 5, 7, 10] rfl ?_
    refine at_region ?_
    refine sxk 2 tabOK rfl ?_
    refine aops_nil ?_
    refine ct_if hF rfl (fun hc hF => ?_) (fun hc hF => ?_)
    · refine at_skip ?_
      refine at_true rfl ?_
      refine at_seq ?_
      refine at_region ?_
      refine sxk 6 tabOK rfl ?_
      refine aops_nil ?_
      refine at_ret ?_
      refine bk_r ?_
      refine tk_r ?_
      obtain rfl := Option.some.inj hF
      refine ret_le rfl ?_
      exact (vle_refl _)
    · refine at_seq ?_
      refine at_region ?_
      refine sxk 2 tabOK rfl ?_
      refine aops_nil ?_
      refine ct_if hF rfl (fun hc hF => ?_) (fun hc hF => ?_)
      · refine at_skip ?_
        refine at_true rfl ?_
        refine at_seq ?_
        refine at_region ?_
        refine sxk 6 tabOK rfl ?_
        refine aops_nil ?_
        refine at_ret ?_
        refine bk_r ?_
        refine tk_r ?_
        obtain rfl := Option.some.inj hF
        refine ret_le rfl ?_
        exact (vle_refl _)
      · refine at_region ?_
        refine sxk 2 tabOK rfl ?_
        refine aops_nil ?_
        refine ct_if hF rfl (fun hc hF => ?_) (fun hc hF => ?_)
        · refine at_seq ?_
          refine at_keep [5, 7] rfl ?_
          refine at_region ?_
          refine sxk 6 tabOK rfl ?_
          refine aops_nil ?_
          refine at_ret ?_
          refine bk_r ?_
          refine tk_r ?_
          obtain rfl := Option.some.inj hF
          refine ret_le rfl ?_
          exact (vle_refl _)
        · refine at_seq ?_
          refine at_region ?_
          refine sxk 2 tabOK rfl ?_
          refine aops_nil ?_
          refine ct_if hF rfl (fun hc hF => ?_) (fun hc hF => ?_)
          · refine at_seq ?_
            refine at_keep [5, 7] rfl ?_
            refine at_region ?_
            refine sxk 6 tabOK rfl ?_
            refine ops_if (g := 34) hF rfl (fun hc hF => ?_) (fun hc hF => ?_)
            · refine sxk 7 tabOK rfl ?_
              refine aops_nil ?_
              refine at_ret ?_
              refine bk_r ?_
              refine tk_r ?_
              obtain rfl := Option.some.inj hF
              refine ret_le rfl ?_
              exact (vle_refl _)
            · refine sxk 7 tabOK rfl ?_
              refine aops_nil ?_
              refine at_ret ?_
              refine bk_r ?_
              refine tk_r ?_
              obtain rfl := Option.some.inj hF
              refine ret_le rfl ?_
              exact (vle_refl _)
          · refine at_seq ?_
            refine at_region ?_
            refine sxk 2 tabOK rfl ?_
            refine aops_nil ?_
            refine ct_if hF rfl (fun hc hF => ?_) (fun hc hF => ?_)
            · refine at_seq ?_
              refine at_keep [5, 7] rfl ?_
              refine at_region ?_
              refine sxk 6 tabOK rfl ?_
              refine aops_nil ?_
              refine at_ret ?_
              refine bk_r ?_
              refine tk_r ?_
              obtain rfl := Option.some.inj hF
              refine ret_le rfl ?_
              exact (vle_refl _)
            · refine at_seq ?_
              refine at_seq ?_
              refine at_keep [2, 4, 5, 7, 10] rfl ?_
              refine at_region ?_
              refine sxk 2 tabOK rfl ?_
              refine aops_nil ?_
              refine ct_if hF rfl (fun hc hF => ?_) (fun hc hF => ?_)
              · refine at_skip ?_
                refine at_true rfl ?_
                refine at_seq ?_
                refine at_region ?_
                refine sxk 6 tabOK rfl ?_
                refine aops_nil ?_
                refine at_ret ?_
                refine bk_r ?_
                refine tk_r ?_
                obtain rfl := Option.some.inj hF
                refine ret_le rfl ?_
                exact (vle_refl _)
              · refine at_seq ?_
                refine at_region ?_
                refine sxk 2 tabOK rfl ?_
                refine aops_nil ?_
                refine ct_if hF rfl (fun hc hF => ?_) (fun hc hF => ?_)
                · refine at_skip ?_
                  refine at_true rfl ?_
                  refine at_seq ?_
                  refine at_region ?_
                  refine sxk 6 tabOK rfl ?_
                  refine aops_nil ?_
                  refine at_ret ?_
                  refine bk_r ?_
                  refine tk_r ?_
                  obtain rfl := Option.some.inj hF
                  refine ret_le rfl ?_
                  exact (vle_refl _)
                · refine at_region ?_
                  refine sxk 2 tabOK rfl ?_
                  refine aops_nil ?_
                  refine ct_if hF rfl (fun hc hF => ?_) (fun hc hF => ?_)
                  · refine at_seq ?_
                    refine at_keep [5, 7] rfl ?_
                    refine at_region ?_
                    refine sxk 6 tabOK rfl ?_
                    refine aops_nil ?_
                    refine at_ret ?_
                    refine bk_r ?_
                    refine tk_r ?_
                    obtain rfl := Option.some.inj hF
                    refine ret_le rfl ?_
                    exact (vle_refl _)
                  · refine at_seq ?_
                    refine at_region ?_
                    refine sxk 2 tabOK rfl ?_
                    refine aops_nil ?_
                    refine ct_if hF rfl (fun hc hF => ?_) (fun hc hF => ?_)
                    · refine at_seq ?_
                      refine at_keep [2, 7] rfl ?_
                      refine at_region ?_
                      refine sxk 5 tabOK rfl ?_
                      refine aops_nil ?_
                      refine at_ret ?_
                      refine bk_r ?_
                      refine tk_r ?_
                      obtain rfl := Option.some.inj hF
                      refine ret_le rfl ?_
                      exact (vle_refl _)
                    · refine at_seq ?_
                      refine at_seq ?_
                      refine at_keep [2, 4, 7, 10] rfl ?_
                      refine at_region ?_
                      refine sxk 2 tabOK rfl ?_
                      refine aops_nil ?_
                      refine cl_midn (σ := Bool) (fun x5 => ⟨[(2, .int .i64 k), (4, .ptr 3 1 0 0), (7, .ptr 5 1 0 0), (10, .int .i64 x_1.op), (63, .bool x5)], [(3, ⟨2, [cImage.row 0 m]⟩), (5, ⟨6, [cInstr.row 0 x_1]⟩)], 6, 102, []⟩) (fun x5 => i_operandOk_J1 m k x_1 x5 = some q) ?_ ?_
                      · refine ct_if hF rfl (fun hc hF => ?_) (fun hc hF => ?_)
                        · refine at_skip ?_
                          exact arr_cut ⟨true, hF, (le_down (down_all (ee_cons rfl rfl rfl (ee_cons rfl rfl (Nat.le_of_ble_eq_true rfl) (ee_cons rfl rfl (Nat.le_of_ble_eq_true rfl) (ee_cons rfl rfl rfl (ee_cons rfl rfl rfl ee_nil))))) (he_cons rfl rfl rfl (row_one (cImage.row_ok _ rfl)) (he_cons rfl rfl rfl (row_one (cInstr.row_ok _ rfl)) he_nil)) rfl rfl rfl rfl))⟩
                        · refine at_region ?_
                          refine sxk 2 tabOK rfl ?_
                          refine aops_nil ?_
                          exact arr_cut ⟨(decide (x_1.op = 20)), hF, (le_down (down_all (ee_cons rfl rfl rfl (ee_cons rfl rfl (Nat.le_of_ble_eq_true rfl) (ee_cons rfl rfl (Nat.le_of_ble_eq_true rfl) (ee_cons rfl rfl rfl (ee_cons rfl rfl rfl ee_nil))))) (he_cons rfl rfl rfl (row_one (cImage.row_ok _ rfl)) (he_cons rfl rfl rfl (row_one (cInstr.row_ok _ rfl)) he_nil)) rfl rfl rfl rfl))⟩
                      · rintro x5 hF
                        refine at_eq (s' := ⟨[(2, .int .i64 k), (4, .ptr 3 1 0 0), (7, .ptr 5 1 0 0), (10, .int .i64 x_1.op), (63, .bool x5)], [(3, ⟨2, [cImage.row 0 m]⟩), (5, ⟨6, [cInstr.row 0 x_1]⟩)], 6, 102, []⟩) rfl ?_
                        replace hF : i_operandOk_J1 m k x_1 x5 = some q := hF
                        unfold i_operandOk_J1 at hF
                        refine ct_b hF rfl (fun hc hF => ?_) (fun hc hF => ?_)
                        · refine at_seq ?_
                          refine at_region ?_
                          refine sxk 5 tabOK rfl ?_
                          refine ops_if (g := 70) hF rfl (fun hc hF => ?_) (fun hc hF => ?_)
                          · refine sxk 4 tabOK rfl ?_
                            obtain ⟨x6, hn_x6, hF⟩ := bnd_some hF
                            refine sv rfl (oc_addr cCode hn_x6 tabOK rfl rfl rfl rfl) rfl ?_
                            refine sxk 5 tabOK rfl ?_
                            refine aops_nil ?_
                            refine at_ret ?_
                            refine bk_r ?_
                            refine tk_r ?_
                            obtain rfl := Option.some.inj hF
                            refine ret_le rfl ?_
                            exact (vle_refl _)
                          · refine sxk 10 tabOK rfl ?_
                            refine aops_nil ?_
                            refine at_ret ?_
                            refine bk_r ?_
                            refine tk_r ?_
                            obtain rfl := Option.some.inj hF
                            refine ret_le rfl ?_
                            exact (vle_refl _)
                        · refine at_seq ?_
                          refine at_region ?_
                          refine sxk 2 tabOK rfl ?_
                          refine aops_nil ?_
                          refine ct_if hF rfl (fun hc hF => ?_) (fun hc hF => ?_)
                          · refine at_seq ?_
                            refine at_region ?_
                            refine sxk 5 tabOK rfl ?_
                            refine ops_if (g := 86) hF rfl (fun hc hF => ?_) (fun hc hF => ?_)
                            · refine sxk 4 tabOK rfl ?_
                              obtain ⟨x6, hn_x6, hF⟩ := bnd_some hF
                              refine sv rfl (oc_addr cCode hn_x6 tabOK rfl rfl rfl rfl) rfl ?_
                              refine sxk 5 tabOK rfl ?_
                              refine aops_nil ?_
                              refine at_ret ?_
                              refine bk_r ?_
                              refine tk_r ?_
                              obtain rfl := Option.some.inj hF
                              refine ret_le rfl ?_
                              exact (vle_refl _)
                            · refine sxk 10 tabOK rfl ?_
                              refine aops_nil ?_
                              refine at_ret ?_
                              refine bk_r ?_
                              refine tk_r ?_
                              obtain rfl := Option.some.inj hF
                              refine ret_le rfl ?_
                              exact (vle_refl _)
                          · refine at_seq ?_
                            refine at_seq ?_
                            refine at_region ?_
                            refine sxk 2 tabOK rfl ?_
                            refine aops_nil ?_
                            refine ct_if hF rfl (fun hc hF => ?_) (fun hc hF => ?_)
                            · refine at_skip ?_
                              refine at_true rfl ?_
                              refine at_seq ?_
                              refine at_keep [7] rfl ?_
                              refine at_region ?_
                              refine sxk 4 tabOK rfl ?_
                              refine aops_nil ?_
                              refine at_ret ?_
                              refine bk_r ?_
                              refine tk_r ?_
                              obtain rfl := Option.some.inj hF
                              refine ret_le rfl ?_
                              exact (vle_refl _)
                            · refine at_keep [7, 10] rfl ?_
                              refine at_region ?_
                              refine sxk 2 tabOK rfl ?_
                              refine aops_nil ?_
                              refine ct_if hF rfl (fun hc hF => ?_) (fun hc hF => ?_)
                              · refine at_seq ?_
                                refine at_region ?_
                                refine sxk 4 tabOK rfl ?_
                                refine aops_nil ?_
                                refine at_ret ?_
                                refine bk_r ?_
                                refine tk_r ?_
                                obtain rfl := Option.some.inj hF
                                refine ret_le rfl ?_
                                exact (vle_refl _)
                              · refine at_skip ?_
                                refine bk_n ?_
                                refine at_seq ?_
                                refine at_region ?_
                                refine sxk 1 tabOK rfl ?_
                                refine aops_nil ?_
                                refine at_ret ?_
                                obtain rfl := Option.some.inj hF
                                refine ret_le rfl ?_
                                exact (vle_refl _)

theorem i_codeOk_ok (m : PImage) (k : Int) (q : Bool) (hF : i_codeOk m k = some q) : FC Try.prog 84 [.agg (cImage.row 0 m), .int .i64 k] [] 3 (fun x _ => x = .bool q) := by
  refine FC.of_le ?_
  refine fc_body tabOK Try.func84 rfl Try.ntmps84 rfl rfl rfl ?_
  unfold i_codeOk at hF
  refine at_seq ?_
  refine at_region ?_
  refine sxk 2 tabOK rfl ?_
  refine aops_nil ?_
  refine at_seq ?_
  refine at_region ?_
  refine sxk 3 tabOK rfl ?_
  obtain ⟨x3, hn_x3, hF⟩ := bnd_some hF
  refine sv rfl (oc_addr cCode hn_x3 tabOK rfl rfl rfl rfl) rfl ?_
  refine sxk 3 tabOK rfl ?_
  refine aops_nil ?_
  refine at_seq ?_
  refine at_seq ?_
  refine at_keep [1, 2, 5] rfl ?_
  refine at_region ?_
  refine sxk 4 tabOK rfl ?_
  refine ops_if (g := 16) hF rfl (fun hc hF => ?_) (fun hc hF => ?_)
  · refine sxk 38 tabOK rfl ?_
    refine aops_nil ?_
    refine at_true rfl ?_
    refine at_seq ?_
    refine at_keep [] rfl ?_
    refine at_region ?_
    refine sxk 1 tabOK rfl ?_
    refine aops_nil ?_
    refine at_ret ?_
    refine tk_r ?_
    obtain rfl := Option.some.inj hF
    refine ret_le rfl ?_
    exact (vle_refl _)
  · refine sxk 5 tabOK rfl ?_
    refine ops_if (g := 21) hF rfl (fun hc hF => ?_) (fun hc hF => ?_)
    · refine sxk 33 tabOK rfl ?_
      refine aops_nil ?_
      refine at_true rfl ?_
      refine at_seq ?_
      refine at_keep [] rfl ?_
      refine at_region ?_
      refine sxk 1 tabOK rfl ?_
      refine aops_nil ?_
      refine at_ret ?_
      refine tk_r ?_
      obtain rfl := Option.some.inj hF
      refine ret_le rfl ?_
      exact (vle_refl _)
    · refine sxk 7 tabOK rfl ?_
      refine ops_if (g := 28) hF rfl (fun hc hF => ?_) (fun hc hF => ?_)
      · refine sxk 26 tabOK rfl ?_
        refine aops_nil ?_
        refine at_true rfl ?_
        refine at_seq ?_
        refine at_keep [] rfl ?_
        refine at_region ?_
        refine sxk 1 tabOK rfl ?_
        refine aops_nil ?_
        refine at_ret ?_
        refine tk_r ?_
        obtain rfl := Option.some.inj hF
        refine ret_le rfl ?_
        exact (vle_refl _)
      · refine sxk 5 tabOK rfl ?_
        refine ops_if (g := 33) hF rfl (fun hc hF => ?_) (fun hc hF => ?_)
        · refine sxk 21 tabOK rfl ?_
          refine aops_nil ?_
          refine at_true rfl ?_
          refine at_seq ?_
          refine at_keep [] rfl ?_
          refine at_region ?_
          refine sxk 1 tabOK rfl ?_
          refine aops_nil ?_
          refine at_ret ?_
          refine tk_r ?_
          obtain rfl := Option.some.inj hF
          refine ret_le rfl ?_
          exact (vle_refl _)
        · refine sxk 5 tabOK rfl ?_
          refine ops_if (g := 38) hF rfl (fun hc hF => ?_) (fun hc hF => ?_)
          · refine sxk 16 tabOK rfl ?_
            refine aops_nil ?_
            refine at_true rfl ?_
            refine at_seq ?_
            refine at_keep [] rfl ?_
            refine at_region ?_
            refine sxk 1 tabOK rfl ?_
            refine aops_nil ?_
            refine at_ret ?_
            refine tk_r ?_
            obtain rfl := Option.some.inj hF
            refine ret_le rfl ?_
            exact (vle_refl _)
          · refine sxk 5 tabOK rfl ?_
            refine ops_if (g := 43) hF rfl (fun hc hF => ?_) (fun hc hF => ?_)
            · refine sxk 11 tabOK rfl ?_
              refine aops_nil ?_
              refine at_true rfl ?_
              refine at_seq ?_
              refine at_keep [] rfl ?_
              refine at_region ?_
              refine sxk 1 tabOK rfl ?_
              refine aops_nil ?_
              refine at_ret ?_
              refine tk_r ?_
              obtain rfl := Option.some.inj hF
              refine ret_le rfl ?_
              exact (vle_refl _)
            · refine sxk 2 tabOK rfl ?_
              refine sv rfl (oc_len cInstr tabOK rfl rfl rfl) rfl ?_
              refine sxk 3 tabOK rfl ?_
              refine ops_if (g := 49) hF rfl (fun hc hF => ?_) (fun hc hF => ?_)
              · refine sxk 5 tabOK rfl ?_
                refine aops_nil ?_
                refine at_true rfl ?_
                refine at_seq ?_
                refine at_keep [] rfl ?_
                refine at_region ?_
                refine sxk 1 tabOK rfl ?_
                refine aops_nil ?_
                refine at_ret ?_
                refine tk_r ?_
                obtain rfl := Option.some.inj hF
                refine ret_le rfl ?_
                exact (vle_refl _)
              · refine sxk 2 tabOK rfl ?_
                refine sv rfl (oc_len cInstr tabOK rfl rfl rfl) rfl ?_
                refine sxk 2 tabOK rfl ?_
                refine aops_nil ?_
                refine ct_if hF rfl (fun hc hF => ?_) (fun hc hF => ?_)
                · refine at_seq ?_
                  refine at_keep [] rfl ?_
                  refine at_region ?_
                  refine sxk 1 tabOK rfl ?_
                  refine aops_nil ?_
                  refine at_ret ?_
                  refine tk_r ?_
                  obtain rfl := Option.some.inj hF
                  refine ret_le rfl ?_
                  exact (vle_refl _)
                · refine at_skip ?_
                  refine at_seq ?_
                  refine at_seq ?_
                  refine at_keep [1, 2, 5] rfl ?_
                  refine at_region ?_
                  refine sxk 2 tabOK rfl ?_
                  refine sv rfl (oc_len cInstr tabOK rfl rfl rfl) rfl ?_
                  refine sxk 1 tabOK rfl ?_
                  refine aops_nil ?_
                  refine at_block ?_
                  refine cl_loop (σ := Int) (fun x4 => ⟨[(1, .int .i64 k), (2, .ptr 3 1 0 0), (5, .ptr 4 1 0 0), (56, .psl 0 6 (x3.instrs.map (cInstr.enc 0))), (57, .int .i64 (x3.instrs.length : Int)), (58, .int .i64 x4)], [(3, ⟨2, [cImage.row 0 m]⟩), (4, ⟨4, [cCode.row 0 x3]⟩)], 5, 74, []⟩) (i_codeOk_L1 m k x3) LF 0 hF (le_down (down_all (ee_cons rfl rfl rfl (ee_cons rfl rfl (Nat.le_of_ble_eq_true rfl) (ee_cons rfl rfl (Nat.le_of_ble_eq_true rfl) (ee_cons rfl rfl (cInstr.ok_psl _ rfl) (ee_cons rfl rfl rfl (ee_cons rfl rfl rfl ee_nil)))))) (he_cons rfl rfl rfl (row_one (cImage.row_ok _ rfl)) (he_cons rfl rfl rfl (row_one (cCode.row_ok _ rfl)) he_nil)) rfl rfl rfl rfl)) ?_
                  rintro lk_ x4 hF
                  refine at_eq (s' := ⟨[(1, .int .i64 k), (2, .ptr 3 1 0 0), (5, .ptr 4 1 0 0), (56, .psl 0 6 (x3.instrs.map (cInstr.enc 0))), (57, .int .i64 (x3.instrs.length : Int)), (58, .int .i64 x4)], [(3, ⟨2, [cImage.row 0 m]⟩), (4, ⟨4, [cCode.row 0 x3]⟩)], 5, 74, []⟩) rfl ?_
                  replace hF : i_codeOk_L1b m k x3 (itr (i_codeOk_L1 m k x3) lk_) x4 = some q := hF
                  unfold i_codeOk_L1b at hF
                  generalize itr (i_codeOk_L1 m k x3) lk_ = go5 at hF ⊢
                  refine at_seq ?_
                  refine at_region ?_
                  refine sxk 1 tabOK rfl ?_
                  refine aops_nil ?_
                  refine at_seq ?_
                  refine ct_if hF rfl (fun hc hF => ?_) (fun hc hF => ?_)
                  · refine at_skip ?_
                    refine at_seq ?_
                    refine at_block ?_
                    refine at_seq ?_
                    refine at_region ?_
                    obtain ⟨x6, hn_x6, hF⟩ := bnd_some hF
                    refine sv rfl (oc_addr cInstr hn_x6 tabOK rfl rfl rfl rfl) rfl ?_
                    refine sxk 3 tabOK rfl ?_
                    refine aops_nil ?_
                    refine at_seq ?_
                    refine at_region ?_
                    refine sxk 1 tabOK rfl ?_
                    obtain ⟨x7, hx7, hF⟩ := bnd_some hF
                    refine call_eq (i_instrOk_ok x6 x7 hx7) rfl ((rlL_cons (cInstr.rl_agg (l := 0) (l' := 0) _ x6 rfl) rlL_nil)) rfl rfl ?_
                    refine sxk 2 tabOK rfl ?_
                    refine ops_ifnb (g := 65) hF rfl (fun hc hF => ?_) (fun hc hF => ?_)
                    · refine sxk 7 tabOK rfl ?_
                      refine aops_nil ?_
                      refine at_true rfl ?_
                      refine at_seq ?_
                      refine at_keep [] rfl ?_
                      refine at_region ?_
                      refine sxk 1 tabOK rfl ?_
                      refine aops_nil ?_
                      refine at_ret ?_
                      refine bk_r ?_
                      refine tk_r ?_
                      refine ll_r ?_
                      refine bk_r ?_
                      refine tk_r ?_
                      obtain rfl := Option.some.inj hF
                      refine ret_le rfl ?_
                      exact (vle_refl _)
                    · refine sxk 4 tabOK rfl ?_
                      obtain ⟨x8, hx8, hF⟩ := bnd_some hF
                      refine call_eq (i_operandOk_ok m x3 k x6 x8 hx8) rfl ((rlL_cons (cImage.rl_agg (l := 0) (l' := 0) _ m rfl) (rlL_cons (cCode.rl_agg (l := 0) (l' := 0) _ x3 rfl) (rlL_cons (rfl) (rlL_cons (cInstr.rl_agg (l := 0) (l' := 0) _ x6 rfl) rlL_nil))))) rfl rfl ?_
                      refine sxk 2 tabOK rfl ?_
                      refine aops_nil ?_
                      refine ct_bn hF rfl (fun hc hF => ?_) (fun hc hF => ?_)
                      · refine at_seq ?_
                        refine at_keep [] rfl ?_
                        refine at_region ?_
                        refine sxk 1 tabOK rfl ?_
                        refine aops_nil ?_
                        refine at_ret ?_
                        refine bk_r ?_
                        refine tk_r ?_
                        refine ll_r ?_
                        refine bk_r ?_
                        refine tk_r ?_
                        obtain rfl := Option.some.inj hF
                        refine ret_le rfl ?_
                        exact (vle_refl _)
                      · refine at_skip ?_
                        refine bk_n ?_
                        refine at_keep [1, 2, 5, 56, 57, 58, 66, 67, 68, 69, 70, 71] rfl ?_
                        refine at_region ?_
                        obtain ⟨hb, hF⟩ := chk_some hF
                        refine s_add tabOK rfl rfl rfl hb rfl ?_
                        refine sxk 1 tabOK rfl ?_
                        refine aops_nil ?_
                        exact arr_loop ⟨(x4 + 1), hF, (le_down (down_all (ee_cons rfl rfl rfl (ee_cons rfl rfl (Nat.le_of_ble_eq_true rfl) (ee_cons rfl rfl (Nat.le_of_ble_eq_true rfl) (ee_cons rfl rfl (cInstr.ok_psl _ rfl) (ee_cons rfl rfl rfl (ee_cons rfl rfl rfl ee_nil)))))) (he_cons rfl rfl rfl (row_one (cImage.row_ok _ rfl)) (he_cons rfl rfl rfl (row_one (cCode.row_ok _ rfl)) he_nil)) rfl rfl rfl rfl))⟩
                  · refine at_exit ?_
                    refine tk_x ?_
                    refine ll_x ?_
                    refine bk_hit ?_
                    refine at_seq ?_
                    refine at_keep [] rfl ?_
                    refine at_region ?_
                    refine sxk 1 tabOK rfl ?_
                    refine aops_nil ?_
                    refine at_ret ?_
                    obtain rfl := Option.some.inj hF
                    refine ret_le rfl ?_
                    exact (vle_refl _)

theorem i_effect_ok (m : PImage) (x_1 : PInstr) (q : Int × Int) (hF : i_effect m x_1 = some q) : FC Try.prog 119 [.agg (cImage.row 0 m), .agg (cInstr.row 0 x_1)] [] 3 (fun x _ => x = .tup [.int .i64 q.1, .int .i64 q.2]) := by
  refine FC.of_le ?_
  refine fc_body tabOK Try.func119 rfl Try.ntmps119 rfl rfl rfl ?_
  unfold i_effect at hF
  refine at_seq ?_
  refine at_region ?_
  refine sxk 4 tabOK rfl ?_
  refine aops_nil ?_
  refine at_seq ?_
  refine at_seq ?_
  refine at_region ?_
  refine sxk 2 tabOK rfl ?_
  refine aops_nil ?_
  refine at_block ?_
  refine at_seq ?_
  refine at_seq ?_
  refine at_region ?_
  refine sxk 2 tabOK rfl ?_
  refine aops_nil ?_
  refine ct_if hF rfl (fun hc hF => ?_) (fun hc hF => ?_)
  · refine at_skip ?_
    refine at_true rfl ?_
    refine at_seq ?_
    refine at_keep [] rfl ?_
    refine at_region ?_
    refine sxk 2 tabOK rfl ?_
    refine aops_nil ?_
    refine at_ret ?_
    refine bk_r ?_
    refine tk_r ?_
    obtain rfl := Option.some.inj hF
    refine ret_le rfl ?_
    exact (vle_tup (.cons (vle_refl _) (.cons (vle_refl _) .nil)))
  · refine at_seq ?_
    refine at_keep [2, 3, 7] rfl ?_
    refine at_region ?_
    refine sxk 2 tabOK rfl ?_
    refine aops_nil ?_
    refine ct_if hF rfl (fun hc hF => ?_) (fun hc hF => ?_)
    · refine at_skip ?_
      refine at_true rfl ?_
      refine at_seq ?_
      refine at_region ?_
      refine sxk 2 tabOK rfl ?_
      refine aops_nil ?_
      refine at_ret ?_
      refine bk_r ?_
      refine tk_r ?_
      obtain rfl := Option.some.inj hF
      refine ret_le rfl ?_
      exact (vle_tup (.cons (vle_refl _) (.cons (vle_refl _) .nil)))
    · refine at_seq ?_
      refine at_region ?_
      refine sxk 2 tabOK rfl ?_
      refine aops_nil ?_
      refine ct_if hF rfl (fun hc hF => ?_) (fun hc hF => ?_)
      · refine at_skip ?_
        refine at_true rfl ?_
        refine at_seq ?_
        refine at_region ?_
        refine sxk 2 tabOK rfl ?_
        refine aops_nil ?_
        refine at_ret ?_
        refine bk_r ?_
        refine tk_r ?_
        obtain rfl := Option.some.inj hF
        refine ret_le rfl ?_
        exact (vle_tup (.cons (vle_refl _) (.cons (vle_refl _) .nil)))
      · refine at_seq ?_
        refine at_region ?_
        refine sxk 2 tabOK rfl ?_
        refine aops_nil ?_
        refine ct_if hF rfl (fun hc hF => ?_) (fun hc hF => ?_)
        · refine at_skip ?_
          refine at_true rfl ?_
          refine at_seq ?_
          refine at_keep [] rfl ?_
          refine at_region ?_
          refine sxk 2 tabOK rfl ?_
          refine aops_nil ?_
          refine at_ret ?_
          refine bk_r ?_
          refine tk_r ?_
          obtain rfl := Option.some.inj hF
          refine ret_le rfl ?_
          exact (vle_tup (.cons (vle_refl _) (.cons (vle_refl _) .nil)))
        · refine at_seq ?_
          refine at_region ?_
          refine sxk 2 tabOK rfl ?_
          refine aops_nil ?_
          refine ct_if hF rfl (fun hc hF => ?_) (fun hc hF => ?_)
          · refine at_skip ?_
            refine at_true rfl ?_
            refine at_seq ?_
            refine at_keep [] rfl ?_
            refine at_region ?_
            refine sxk 2 tabOK rfl ?_
            refine aops_nil ?_
            refine at_ret ?_
            refine bk_r ?_
            refine tk_r ?_
            obtain rfl := Option.some.inj hF
            refine ret_le rfl ?_
            exact (vle_tup (.cons (vle_refl _) (.cons (vle_refl _) .nil)))
          · refine at_region ?_
            refine sxk 2 tabOK rfl ?_
            refine aops_nil ?_
            refine ct_if hF rfl (fun hc hF => ?_) (fun hc hF => ?_)
            · refine at_seq ?_
              refine at_keep [] rfl ?_
              refine at_region ?_
              refine sxk 2 tabOK rfl ?_
              refine aops_nil ?_
              refine at_ret ?_
              refine bk_r ?_
              refine tk_r ?_
              obtain rfl := Option.some.inj hF
              refine ret_le rfl ?_
              exact (vle_tup (.cons (vle_refl _) (.cons (vle_refl _) .nil)))
            · refine at_seq ?_
              refine at_seq ?_
              refine at_region ?_
              refine sxk 2 tabOK rfl ?_
              refine aops_nil ?_
              refine ct_if hF rfl (fun hc hF => ?_) (fun hc hF => ?_)
              · refine at_skip ?_
                refine at_true rfl ?_
                refine at_seq ?_
                refine at_keep [] rfl ?_
                refine at_region ?_
                refine sxk 2 tabOK rfl ?_
                refine aops_nil ?_
                refine at_ret ?_
                refine bk_r ?_
                refine tk_r ?_
                obtain rfl := Option.some.inj hF
                refine ret_le rfl ?_
                exact (vle_tup (.cons (vle_refl _) (.cons (vle_refl _) .nil)))
              · refine at_keep [2, 3, 7] rfl ?_
                refine at_region ?_
                refine sxk 2 tabOK rfl ?_
                refine aops_nil ?_
                refine ct_if hF rfl (fun hc hF => ?_) (fun hc hF => ?_)
                · refine at_seq ?_
                  refine at_region ?_
                  refine sxk 2 tabOK rfl ?_
                  refine aops_nil ?_
                  refine at_ret ?_
                  refine bk_r ?_
                  refine tk_r ?_
                  obtain rfl := Option.some.inj hF
                  refine ret_le rfl ?_
                  exact (vle_tup (.cons (vle_refl _) (.cons (vle_refl _) .nil)))
                · refine at_seq ?_
                  refine at_seq ?_
                  refine at_region ?_
                  refine sxk 2 tabOK rfl ?_
                  refine aops_nil ?_
                  refine ct_if hF rfl (fun hc hF => ?_) (fun hc hF => ?_)
                  · refine at_skip ?_
                    refine at_true rfl ?_
                    refine at_seq ?_
                    refine at_region ?_
                    refine sxk 4 tabOK rfl ?_
                    obtain ⟨x3, hn_x3, hF⟩ := bnd_some hF
                    refine sv rfl (oc_addr cCode hn_x3 tabOK rfl rfl rfl rfl) rfl ?_
                    refine sxk 4 tabOK rfl ?_
                    refine aops_nil ?_
                    refine at_ret ?_
                    refine bk_r ?_
                    refine tk_r ?_
                    obtain rfl := Option.some.inj hF
                    refine ret_le rfl ?_
                    exact (vle_tup (.cons (vle_refl _) (.cons (vle_refl _) .nil)))
                  · refine at_seq ?_
                    refine at_region ?_
                    refine sxk 2 tabOK rfl ?_
                    refine aops_nil ?_
                    refine ct_if hF rfl (fun hc hF => ?_) (fun hc hF => ?_)
                    · refine at_skip ?_
                      refine at_true rfl ?_
                      refine at_seq ?_
                      refine at_region ?_
                      refine sxk 4 tabOK rfl ?_
                      obtain ⟨x3, hn_x3, hF⟩ := bnd_some hF
                      refine sv rfl (oc_addr cCode hn_x3 tabOK rfl rfl rfl rfl) rfl ?_
                      refine sxk 4 tabOK rfl ?_
                      refine aops_nil ?_
                      refine at_ret ?_
                      refine bk_r ?_
                      refine tk_r ?_
                      obtain rfl := Option.some.inj hF
                      refine ret_le rfl ?_
                      exact (vle_tup (.cons (vle_refl _) (.cons (vle_refl _) .nil)))
                    · refine at_seq ?_
                      refine at_region ?_
                      refine sxk 2 tabOK rfl ?_
                      refine aops_nil ?_
                      refine ct_if hF rfl (fun hc hF => ?_) (fun hc hF => ?_)
                      · refine at_skip ?_
                        refine at_true rfl ?_
                        refine at_seq ?_
                        refine at_keep [2, 3] rfl ?_
                        refine at_region ?_
                        refine sxk 4 tabOK rfl ?_
                        obtain ⟨x3, hn_x3, hF⟩ := bnd_some hF
                        refine sv rfl (oc_addr cCode hn_x3 tabOK rfl rfl rfl rfl) rfl ?_
                        refine sxk 4 tabOK rfl ?_
                        refine aops_nil ?_
                        refine at_ret ?_
                        refine bk_r ?_
                        refine tk_r ?_
                        obtain rfl := Option.some.inj hF
                        refine ret_le rfl ?_
                        exact (vle_tup (.cons (vle_refl _) (.cons (vle_refl _) .nil)))
                      · refine at_region ?_
                        refine sxk 2 tabOK rfl ?_
                        refine aops_nil ?_
                        refine ct_if hF rfl (fun hc hF => ?_) (fun hc hF => ?_)
                        · refine at_seq ?_
                          refine at_keep [2, 3] rfl ?_
                          refine at_region ?_
                          refine sxk 4 tabOK rfl ?_
                          obtain ⟨x3, hn_x3, hF⟩ := bnd_some hF
                          refine sv rfl (oc_addr cCode hn_x3 tabOK rfl rfl rfl rfl) rfl ?_
                          refine sxk 4 tabOK rfl ?_
                          refine aops_nil ?_
                          refine at_ret ?_
                          refine bk_r ?_
                          refine tk_r ?_
                          obtain rfl := Option.some.inj hF
                          refine ret_le rfl ?_
                          exact (vle_tup (.cons (vle_refl _) (.cons (vle_refl _) .nil)))
                        · refine at_seq ?_
                          refine at_keep [3, 7] rfl ?_
                          refine at_region ?_
                          refine sxk 2 tabOK rfl ?_
                          refine aops_nil ?_
                          refine ct_if hF rfl (fun hc hF => ?_) (fun hc hF => ?_)
                          · refine at_seq ?_
                            refine at_region ?_
                            refine sxk 2 tabOK rfl ?_
                            obtain ⟨hb, hF⟩ := chk_some hF
                            refine s_add tabOK rfl rfl rfl hb rfl ?_
                            refine sxk 2 tabOK rfl ?_
                            refine aops_nil ?_
                            refine at_ret ?_
                            refine bk_r ?_
                            refine tk_r ?_
                            obtain rfl := Option.some.inj hF
                            refine ret_le rfl ?_
                            exact (vle_tup (.cons (vle_refl _) (.cons (vle_refl _) .nil)))
                          · refine at_seq ?_
                            refine at_region ?_
                            refine sxk 2 tabOK rfl ?_
                            refine aops_nil ?_
                            refine ct_if hF rfl (fun hc hF => ?_) (fun hc hF => ?_)
                            · refine at_seq ?_
                              refine at_region ?_
                              refine sxk 2 tabOK rfl ?_
                              obtain ⟨hb, hF⟩ := chk_some hF
                              refine s_add tabOK rfl rfl rfl hb rfl ?_
                              refine sxk 2 tabOK rfl ?_
                              refine aops_nil ?_
                              refine at_ret ?_
                              refine bk_r ?_
                              refine tk_r ?_
                              obtain rfl := Option.some.inj hF
                              refine ret_le rfl ?_
                              exact (vle_tup (.cons (vle_refl _) (.cons (vle_refl _) .nil)))
                            · refine at_seq ?_
                              refine at_seq ?_
                              refine at_region ?_
                              refine sxk 2 tabOK rfl ?_
                              refine aops_nil ?_
                              refine ct_if hF rfl (fun hc hF => ?_) (fun hc hF => ?_)
                              · refine at_skip ?_
                                refine at_true rfl ?_
                                refine at_seq ?_
                                refine at_keep [] rfl ?_
                                refine at_region ?_
                                refine sxk 2 tabOK rfl ?_
                                refine aops_nil ?_
                                refine at_ret ?_
                                refine bk_r ?_
                                refine tk_r ?_
                                obtain rfl := Option.some.inj hF
                                refine ret_le rfl ?_
                                exact (vle_tup (.cons (vle_refl _) (.cons (vle_refl _) .nil)))
                              · refine at_seq ?_
                                refine at_keep [7] rfl ?_
                                refine at_region ?_
                                refine sxk 2 tabOK rfl ?_
                                refine aops_nil ?_
                                refine ct_if hF rfl (fun hc hF => ?_) (fun hc hF => ?_)
                                · refine at_skip ?_
                                  refine at_true rfl ?_
                                  refine at_seq ?_
                                  refine at_region ?_
                                  refine sxk 2 tabOK rfl ?_
                                  refine aops_nil ?_
                                  refine at_ret ?_
                                  refine bk_r ?_
                                  refine tk_r ?_
                                  obtain rfl := Option.some.inj hF
                                  refine ret_le rfl ?_
                                  exact (vle_tup (.cons (vle_refl _) (.cons (vle_refl _) .nil)))
                                · refine at_region ?_
                                  refine sxk 2 tabOK rfl ?_
                                  refine aops_nil ?_
                                  refine ct_if hF rfl (fun hc hF => ?_) (fun hc hF => ?_)
                                  · refine at_seq ?_
                                    refine at_region ?_
                                    refine sxk 2 tabOK rfl ?_
                                    refine aops_nil ?_
                                    refine at_ret ?_
                                    refine bk_r ?_
                                    refine tk_r ?_
                                    obtain rfl := Option.some.inj hF
                                    refine ret_le rfl ?_
                                    exact (vle_tup (.cons (vle_refl _) (.cons (vle_refl _) .nil)))
                                  · refine at_skip ?_
                                    refine bk_n ?_
                                    refine at_seq ?_
                                    refine at_region ?_
                                    refine sxk 2 tabOK rfl ?_
                                    refine aops_nil ?_
                                    refine at_ret ?_
                                    obtain rfl := Option.some.inj hF
                                    refine ret_le rfl ?_
                                    exact (vle_tup (.cons (vle_refl _) (.cons (vle_refl _) .nil)))

theorem i_depthsOf_ok (m : PImage) (code : Int) (q : List Int × Bool) (hF : i_depthsOf m code = some q) : FC Try.prog 85 [.agg (cImage.row 0 m), .int .i64 code] [] 3 (fun x _ => x = .tup [.psl 1 1 (q.1.map (cInt.enc 1)), .bool q.2]) := by
  refine FC.of_le ?_
  refine fc_body tabOK Try.func85 rfl Try.ntmps85 rfl rfl rfl ?_
  unfold i_depthsOf at hF
  refine at_seq ?_
  refine at_region ?_
  refine sxk 3 tabOK rfl ?_
  refine aops_nil ?_
  refine at_seq ?_
  refine at_region ?_
  refine sxk 3 tabOK rfl ?_
  obtain ⟨x3, hn_x3, hF⟩ := bnd_some hF
  refine sv rfl (oc_addr cCode hn_x3 tabOK rfl rfl rfl rfl) rfl ?_
  refine sxk 3 tabOK rfl ?_
  refine aops_nil ?_
  refine at_seq ?_
  refine at_keep [2, 6] rfl ?_
  refine at_region ?_
  refine sxk 1 tabOK rfl ?_
  refine sv rfl (oc_len cInstr tabOK rfl rfl rfl) rfl ?_
  obtain ⟨hb, hF⟩ := chk_some hF
  refine sc_make cInt (l := 0) (v := (0 : Int)) hb tabOK rfl rfl rfl rfl (vleL_refl _) rfl rfl rfl ?_
  refine sxk 1 tabOK rfl ?_
  refine aops_nil ?_
  refine at_seq ?_
  refine at_seq ?_
  refine at_region ?_
  refine sxk 1 tabOK rfl ?_
  refine sv rfl (oc_hlen cInt tabOK rfl rfl rfl) rfl ?_
  refine sxk 1 tabOK rfl ?_
  refine aops_nil ?_
  refine at_block ?_
  refine cl_loop (σ := Int × List Int) (fun v => match v with | (x4, out5) => ⟨[(2, .ptr 3 1 0 0), (6, .psl 0 6 (x3.instrs.map (cInstr.enc 0))), (7, .hsl 4 0 out5.length), (27, .int .i64 ((List.replicate (x3.instrs.length : Int).toNat (0 : Int)).length : Int)), (28, .int .i64 x4)], [(3, ⟨2, [cImage.row 0 m]⟩), (4, ⟨1, out5.map (cInt.enc 0)⟩)], 5, 130, []⟩) (i_depthsOf_L1 m x3) LF (0, (List.replicate (x3.instrs.length : Int).toNat (0 : Int))) hF (le_down (down_all (ee_cons rfl rfl (Nat.le_of_ble_eq_true rfl) (ee_cons rfl rfl (cInstr.ok_psl _ rfl) (ee_cons rfl rfl (Nat.le_of_ble_eq_true rfl) (ee_cons rfl rfl rfl (ee_cons rfl rfl rfl ee_nil))))) (he_cons rfl rfl rfl (row_one (cImage.row_ok _ rfl)) (he_cons rfl rfl rfl (cInt.rows_ok _ rfl) he_nil)) rfl rfl rfl rfl)) ?_
  rintro lk_ ⟨x4, out5⟩ hF
  refine at_eq (s' := ⟨[(2, .ptr 3 1 0 0), (6, .psl 0 6 (x3.instrs.map (cInstr.enc 0))), (7, .hsl 4 0 out5.length), (27, .int .i64 ((List.replicate (x3.instrs.length : Int).toNat (0 : Int)).length : Int)), (28, .int .i64 x4)], [(3, ⟨2, [cImage.row 0 m]⟩), (4, ⟨1, out5.map (cInt.enc 0)⟩)], 5, 130, []⟩) rfl ?_
  replace hF : i_depthsOf_L1b m x3 (itr (i_depthsOf_L1 m x3) lk_) x4 out5 = some q := hF
  unfold i_depthsOf_L1b at hF
  generalize itr (i_depthsOf_L1 m x3) lk_ = go6 at hF ⊢
  refine at_seq ?_
  refine at_region ?_
  refine sxk 1 tabOK rfl ?_
  refine aops_nil ?_
  refine at_seq ?_
  refine ct_if hF rfl (fun hc hF => ?_) (fun hc hF => ?_)
  · refine at_skip ?_
    refine at_seq ?_
    refine at_block ?_
    refine at_seq ?_
    refine at_region ?_
    refine sxk 2 tabOK rfl ?_
    refine aops_nil ?_
    refine at_region ?_
    refine sxk 2 tabOK rfl ?_
    obtain ⟨x7, hn_x7, hF⟩ := bnd_some hF
    refine sv rfl (oc_haddr cInt hn_x7 tabOK rfl rfl rfl rfl) rfl ?_
    refine sc_store cInt (v' := (-1)) hn_x7 tabOK rfl rfl rfl rfl rfl rfl rfl rfl ?_
    refine ops_le (le_slot (y := .hsl 4 0 (out5.set x4.toNat (-1)).length) 7 rfl (vle_eq (congrArg (V.hsl 4 0) (by simp))) rfl) ?_
    refine aops_nil ?_
    refine bk_n ?_
    refine at_region ?_
    obtain ⟨hb, hF⟩ := chk_some hF
    refine s_add tabOK rfl rfl rfl hb rfl ?_
    refine sxk 1 tabOK rfl ?_
    refine aops_nil ?_
    exact arr_loop ⟨((x4 + 1), (out5.set x4.toNat (-1))), hF, (le_down (down_all (ee_cons rfl rfl (Nat.le_of_ble_eq_true rfl) (ee_cons rfl rfl (cInstr.ok_psl _ rfl) (ee_cons rfl rfl (Nat.le_of_ble_eq_true rfl) (ee_cons rfl rfl rfl (ee_cons rfl rfl rfl ee_nil))))) (he_cons rfl rfl rfl (row_one (cImage.row_ok _ rfl)) (he_cons rfl rfl rfl (cInt.rows_ok _ rfl) he_nil)) rfl rfl rfl rfl))⟩
  · refine at_exit ?_
    refine tk_x ?_
    refine ll_x ?_
    refine bk_hit ?_
    refine at_seq ?_
    refine at_region ?_
    refine sxk 1 tabOK rfl ?_
    obtain ⟨x7, hn_x7, hF⟩ := bnd_some hF
    refine sv rfl (oc_haddr cInt hn_x7 tabOK rfl rfl rfl rfl) rfl ?_
    refine sc_store cInt (v' := 0) hn_x7 tabOK rfl rfl rfl rfl rfl rfl rfl rfl ?_
    refine ops_le (le_slot (y := .hsl 4 0 (out5.set (0 : Int).toNat 0).length) 7 rfl (vle_eq (congrArg (V.hsl 4 0) (by simp))) rfl) ?_
    refine aops_nil ?_
    refine at_seq ?_
    refine at_seq ?_
    refine at_region ?_
    refine sxk 1 tabOK rfl ?_
    refine sv rfl (oc_len cInstr tabOK rfl rfl rfl) rfl ?_
    refine sxk 1 tabOK rfl ?_
    refine aops_nil ?_
    refine at_block ?_
    refine cl_loop (σ := Int × List Int) (fun v => match v with | (x8, out9) => ⟨[(2, .ptr 3 1 0 0), (6, .psl 0 6 (x3.instrs.map (cInstr.enc 0))), (7, .hsl 4 0 out9.length), (37, .psl 0 6 (x3.instrs.map (cInstr.enc 0))), (38, .int .i64 (x3.instrs.length : Int)), (39, .int .i64 x8)], [(3, ⟨2, [cImage.row 0 m]⟩), (4, ⟨1, out9.map (cInt.enc 0)⟩)], 5, 130, []⟩) (i_depthsOf_L2 m x3) LF (0, (out5.set (0 : Int).toNat 0)) hF (le_down (down_all (ee_cons rfl rfl (Nat.le_of_ble_eq_true rfl) (ee_cons rfl rfl (cInstr.ok_psl _ rfl) (ee_cons rfl rfl (Nat.le_of_ble_eq_true rfl) (ee_cons rfl rfl (cInstr.ok_psl _ rfl) (ee_cons rfl rfl rfl (ee_cons rfl rfl rfl ee_nil)))))) (he_cons rfl rfl rfl (row_one (cImage.row_ok _ rfl)) (he_cons rfl rfl rfl (cInt.rows_ok _ rfl) he_nil)) rfl rfl rfl rfl)) ?_
    rintro lk_ ⟨x8, out9⟩ hF
    refine at_eq (s' := ⟨[(2, .ptr 3 1 0 0), (6, .psl 0 6 (x3.instrs.map (cInstr.enc 0))), (7, .hsl 4 0 out9.length), (37, .psl 0 6 (x3.instrs.map (cInstr.enc 0))), (38, .int .i64 (x3.instrs.length : Int)), (39, .int .i64 x8)], [(3, ⟨2, [cImage.row 0 m]⟩), (4, ⟨1, out9.map (cInt.enc 0)⟩)], 5, 130, []⟩) rfl ?_
    replace hF : i_depthsOf_L2b m x3 (itr (i_depthsOf_L2 m x3) lk_) x8 out9 = some q := hF
    unfold i_depthsOf_L2b at hF
    generalize itr (i_depthsOf_L2 m x3) lk_ = go10 at hF ⊢
    refine at_seq ?_
    refine at_region ?_
    refine sxk 1 tabOK rfl ?_
    refine aops_nil ?_
    refine at_seq ?_
    refine ct_if hF rfl (fun hc hF => ?_) (fun hc hF => ?_)
    · refine at_skip ?_
      refine at_seq ?_
      refine cl_midn (σ := List Int) (fun out11 => ⟨[(2, .ptr 3 1 0 0), (6, .psl 0 6 (x3.instrs.map (cInstr.enc 0))), (7, .hsl 4 0 out11.length), (37, .psl 0 6 (x3.instrs.map (cInstr.enc 0))), (38, .int .i64 (x3.instrs.length : Int)), (39, .int .i64 x8)], [(3, ⟨2, [cImage.row 0 m]⟩), (4, ⟨1, out11.map (cInt.enc 0)⟩)], 5, 130, []⟩) (fun out11 => i_depthsOf_J3 x8 go10 out11 = some q) ?_ ?_
      · refine at_block ?_
        refine at_seq ?_
        refine at_region ?_
        refine sxk 1 tabOK rfl ?_
        obtain ⟨x11, hn_x11, hF⟩ := bnd_some hF
        refine sv rfl (oc_addr cInstr hn_x11 tabOK rfl rfl rfl rfl) rfl ?_
        refine sxk 4 tabOK rfl ?_
        refine aops_nil ?_
        refine at_seq ?_
        refine at_seq ?_
        refine at_region ?_
        refine sxk 2 tabOK rfl ?_
        obtain ⟨x12, hn_x12, hF⟩ := bnd_some hF
        refine sv rfl (oc_haddr cInt hn_x12 tabOK rfl rfl rfl rfl) rfl ?_
        refine sv rfl (oc_load cInt hn_x12 tabOK rfl rfl rfl rfl) rfl ?_
        refine sxk 1 tabOK rfl ?_
        refine aops_nil ?_
        refine ct_if hF rfl (fun hc hF => ?_) (fun hc hF => ?_)
        · refine at_exit ?_
          refine tk_x ?_
          refine bk_hit ?_
          exact arr_cut ⟨out9, hF, (le_down (down_all (ee_cons rfl rfl (Nat.le_of_ble_eq_true rfl) (ee_cons rfl rfl (cInstr.ok_psl _ rfl) (ee_cons rfl rfl (Nat.le_of_ble_eq_true rfl) (ee_cons rfl rfl (cInstr.ok_psl _ rfl) (ee_cons rfl rfl rfl (ee_cons rfl rfl rfl ee_nil)))))) (he_cons rfl rfl rfl (row_one (cImage.row_ok _ rfl)) (he_cons rfl rfl rfl (cInt.rows_ok _ rfl) he_nil)) rfl rfl rfl rfl))⟩
        · refine at_skip ?_
          refine at_seq ?_
          refine at_keep [2, 6, 7, 9, 10, 37, 38, 39] rfl ?_
          refine at_region ?_
          refine sxk 2 tabOK rfl ?_
          obtain ⟨x13, hx13, hF⟩ := bnd_some hF
          refine call_eq (i_effect_ok m x11 x13 hx13) rfl ((rlL_cons (cImage.rl_agg (l := 0) (l' := 0) _ m rfl) (rlL_cons (cInstr.rl_agg (l := 0) (l' := 0) _ x11 rfl) rlL_nil))) (rl_tupL (rlL_cons (rfl) (rlL_cons (rfl) rlL_nil))) rfl ?_
          refine sxk 5 tabOK rfl ?_
          refine aops_nil ?_
          refine at_seq ?_
          refine at_seq ?_
          refine at_region ?_
          refine sxk 3 tabOK rfl ?_
          obtain ⟨x14, hn_x14, hF⟩ := bnd_some hF
          refine sv rfl (oc_haddr cInt hn_x14 tabOK rfl rfl rfl rfl) rfl ?_
          refine sv rfl (oc_load cInt hn_x14 tabOK rfl rfl rfl rfl) rfl ?_
          refine sxk 1 tabOK rfl ?_
          refine aops_nil ?_
          refine ct_if hF rfl (fun hc hF => ?_) (fun hc hF => ?_)
          · refine at_seq ?_
            refine at_keep [] rfl ?_
            refine at_region ?_
            refine sxk 2 tabOK rfl ?_
            refine aops_nil ?_
            refine at_ret ?_
            refine tk_r ?_
            refine bk_r ?_
            refine tk_r ?_
            refine ll_r ?_
            refine bk_r ?_
            refine tk_r ?_
            obtain rfl := Option.some.inj hF
            refine ret_le rfl ?_
            exact (vle_tup (.cons (vle_nil _ _) (.cons (vle_refl _) .nil)))
          · refine at_skip ?_
            refine at_seq ?_
            refine at_keep [2, 6, 7, 9, 10, 11, 12, 37, 38, 39] rfl ?_
            refine at_region ?_
            refine sxk 2 tabOK rfl ?_
            obtain ⟨x15, hn_x15, hF⟩ := bnd_some hF
            refine sv rfl (oc_haddr cInt hn_x15 tabOK rfl rfl rfl rfl) rfl ?_
            refine sv rfl (oc_load cInt hn_x15 tabOK rfl rfl rfl rfl) rfl ?_
            refine sxk 1 tabOK rfl ?_
            obtain ⟨hb, hF⟩ := chk_some hF
            refine s_sub tabOK rfl rfl rfl hb rfl ?_
            refine sxk 1 tabOK rfl ?_
            obtain ⟨hb, hF⟩ := chk_some hF
            refine s_add tabOK rfl rfl rfl hb rfl ?_
            refine sxk 1 tabOK rfl ?_
            refine aops_nil ?_
            refine at_seq ?_
            refine at_seq ?_
            refine at_keep [2, 6, 7, 9, 10, 13, 37, 38, 39] rfl ?_
            refine at_region ?_
            refine sxk 2 tabOK rfl ?_
            refine aops_nil ?_
            refine ct_if hF rfl (fun hc hF => ?_) (fun hc hF => ?_)
            · refine at_seq ?_
              refine at_keep [] rfl ?_
              refine at_region ?_
              refine sxk 2 tabOK rfl ?_
              refine aops_nil ?_
              refine at_ret ?_
              refine tk_r ?_
              refine bk_r ?_
              refine tk_r ?_
              refine ll_r ?_
              refine bk_r ?_
              refine tk_r ?_
              obtain rfl := Option.some.inj hF
              refine ret_le rfl ?_
              exact (vle_tup (.cons (vle_nil _ _) (.cons (vle_refl _) .nil)))
            · refine at_skip ?_
              refine at_seq ?_
              refine at_region ?_
              refine sxk 1 tabOK rfl ?_
              refine aops_nil ?_
              refine at_seq ?_
              refine at_seq ?_
              refine at_region ?_
              refine sxk 2 tabOK rfl ?_
              refine aops_nil ?_
              refine cl_midn (σ := List Int) (fun next16 => ⟨[(2, .ptr 3 1 0 0), (6, .psl 0 6 (x3.instrs.map (cInstr.enc 0))), (7, .hsl 4 0 out9.length), (9, .int .i64 x8), (13, .int .i64 ((x15 - x13.1) + x13.2)), (14, .hsl 6 0 next16.length), (37, .psl 0 6 (x3.instrs.map (cInstr.enc 0))), (38, .int .i64 (x3.instrs.length : Int)), (39, .int .i64 x8)], [(3, ⟨2, [cImage.row 0 m]⟩), (4, ⟨1, out9.map (cInt.enc 0)⟩), (6, ⟨1, next16.map (cInt.enc 0)⟩)], 7, 130, []⟩) (fun next16 => i_depthsOf_J4 x3 x8 out9 go10 x13 x15 next16 = some q) ?_ ?_
              · refine at_block ?_
                refine at_seq ?_
                refine at_seq ?_
                refine at_region ?_
                refine sxk 2 tabOK rfl ?_
                refine aops_nil ?_
                refine cl_midn (σ := Bool) (fun x16 => ⟨[(2, .ptr 3 1 0 0), (6, .psl 0 6 (x3.instrs.map (cInstr.enc 0))), (7, .hsl 4 0 out9.length), (9, .int .i64 x8), (10, .ptr 5 1 0 0), (13, .int .i64 ((x15 - x13.1) + x13.2)), (14, .nilsl), (37, .psl 0 6 (x3.instrs.map (cInstr.enc 0))), (38, .int .i64 (x3.instrs.length : Int)), (39, .int .i64 x8), (72, .int .i64 x11.op), (76, .bool x16)], [(3, ⟨2, [cImage.row 0 m]⟩), (4, ⟨1, out9.map (cInt.enc 0)⟩), (5, ⟨6, [cInstr.row 0 x11]⟩)], 6, 130, []⟩) (fun x16 => i_depthsOf_J7 x3 x8 out9 go10 x11 x13 x15 x16 = some q) ?_ ?_
                · refine ct_if hF rfl (fun hc hF => ?_) (fun hc hF => ?_)
                  · refine at_skip ?_
                    exact arr_cut ⟨true, hF, (le_down (down_all (ee_cons rfl rfl (Nat.le_of_ble_eq_true rfl) (ee_cons rfl rfl (cInstr.ok_psl _ rfl) (ee_cons rfl rfl (Nat.le_of_ble_eq_true rfl) (ee_cons rfl rfl rfl (ee_cons rfl rfl (Nat.le_of_ble_eq_true rfl) (ee_cons rfl rfl rfl (ee_cons rfl rfl rfl (ee_cons rfl rfl (cInstr.ok_psl _ rfl) (ee_cons rfl rfl rfl (ee_cons rfl rfl rfl (ee_cons rfl rfl rfl (ee_cons rfl rfl rfl ee_nil)))))))))))) (he_cons rfl rfl rfl (row_one (cImage.row_ok _ rfl)) (he_cons rfl rfl rfl (cInt.rows_ok _ rfl) (he_cons rfl rfl rfl (row_one (cInstr.row_ok _ rfl)) he_nil))) rfl rfl rfl rfl))⟩
                  · refine at_region ?_
                    refine sxk 2 tabOK rfl ?_
                    refine aops_nil ?_
                    exact arr_cut ⟨(decide (x11.op = 13)), hF, (le_down (down_all (ee_cons rfl rfl (Nat.le_of_ble_eq_true rfl) (ee_cons rfl rfl (cInstr.ok_psl _ rfl) (ee_cons rfl rfl (Nat.le_of_ble_eq_true rfl) (ee_cons rfl rfl rfl (ee_cons rfl rfl (Nat.le_of_ble_eq_true rfl) (ee_cons rfl rfl rfl (ee_cons rfl rfl rfl (ee_cons rfl rfl (cInstr.ok_psl _ rfl) (ee_cons rfl rfl rfl (ee_cons rfl rfl rfl (ee_cons rfl rfl rfl (ee_cons rfl rfl rfl ee_nil)))))))))))) (he_cons rfl rfl rfl (row_one (cImage.row_ok _ rfl)) (he_cons rfl rfl rfl (cInt.rows_ok _ rfl) (he_cons rfl rfl rfl (row_one (cInstr.row_ok _ rfl)) he_nil))) rfl rfl rfl rfl))⟩
                · rintro x16 hF
                  refine at_eq (s' := ⟨[(2, .ptr 3 1 0 0), (6, .psl 0 6 (x3.instrs.map (cInstr.enc 0))), (7, .hsl 4 0 out9.length), (9, .int .i64 x8), (10, .ptr 5 1 0 0), (13, .int .i64 ((x15 - x13.1) + x13.2)), (14, .nilsl), (37, .psl 0 6 (x3.instrs.map (cInstr.enc 0))), (38, .int .i64 (x3.instrs.length : Int)), (39, .int .i64 x8), (72, .int .i64 x11.op), (76, .bool x16)], [(3, ⟨2, [cImage.row 0 m]⟩), (4, ⟨1, out9.map (cInt.enc 0)⟩), (5, ⟨6, [cInstr.row 0 x11]⟩)], 6, 130, []⟩) rfl ?_
                  replace hF : i_depthsOf_J7 x3 x8 out9 go10 x11 x13 x15 x16 = some q := hF
                  unfold i_depthsOf_J7 at hF
                  refine ct_b hF rfl (fun hc hF => ?_) (fun hc hF => ?_)
                  · refine at_seq ?_
                    refine at_region ?_
                    refine sxk 2 tabOK rfl ?_
                    refine aops_nil ?_
                    refine ct_ifn hF rfl (fun hc hF => ?_) (fun hc hF => ?_)
                    · refine at_seq ?_
                      refine at_keep [] rfl ?_
                      refine at_region ?_
                      refine sxk 2 tabOK rfl ?_
                      refine aops_nil ?_
                      refine at_ret ?_
                      refine bk_r ?_
                      refine tk_r ?_
                      refine bk_r ?_
                      refine tk_r ?_
                      refine ll_r ?_
                      refine bk_r ?_
                      refine tk_r ?_
                      obtain rfl := Option.some.inj hF
                      refine ret_le rfl ?_
                      exact (vle_tup (.cons (vle_nil _ _) (.cons (vle_refl _) .nil)))
                    · refine at_skip ?_
                      refine bk_n ?_
                      exact arr_cut ⟨[], hF, ((le_nilrow 14 1 rfl rfl).trans (le_down (down_all (ee_cons rfl rfl (Nat.le_of_ble_eq_true rfl) (ee_cons rfl rfl (cInstr.ok_psl _ rfl) (ee_cons rfl rfl (Nat.le_of_ble_eq_true rfl) (ee_cons rfl rfl rfl (ee_cons rfl rfl rfl (ee_cons rfl rfl (Nat.le_of_ble_eq_true rfl) (ee_cons rfl rfl (cInstr.ok_psl _ rfl) (ee_cons rfl rfl rfl (ee_cons rfl rfl rfl ee_nil))))))))) (he_cons rfl rfl rfl (row_one (cImage.row_ok _ rfl)) (he_cons rfl rfl rfl (cInt.rows_ok _ rfl) (he_cons rfl rfl rfl (cInt.rows_ok _ rfl) he_nil))) rfl rfl rfl rfl)))⟩
                  · refine at_seq ?_
                    refine at_region ?_
                    refine sxk 2 tabOK rfl ?_
                    refine aops_nil ?_
                    refine ct_if hF rfl (fun hc hF => ?_) (fun hc hF => ?_)
                    · refine at_region ?_
                      refine sxk 2 tabOK rfl ?_
                      refine sc_slit cInt (l := 0) ([x11.a] : List Int) tabOK rfl rfl rfl rfl rfl rfl rfl ?_
                      refine sxk 1 tabOK rfl ?_
                      refine aops_nil ?_
                      refine bk_n ?_
                      exact arr_cut ⟨([x11.a] : List Int), hF, (le_down (down_all (ee_cons rfl rfl (Nat.le_of_ble_eq_true rfl) (ee_cons rfl rfl (cInstr.ok_psl _ rfl) (ee_cons rfl rfl (Nat.le_of_ble_eq_true rfl) (ee_cons rfl rfl rfl (ee_cons rfl rfl rfl (ee_cons rfl rfl (Nat.le_of_ble_eq_true rfl) (ee_cons rfl rfl (cInstr.ok_psl _ rfl) (ee_cons rfl rfl rfl (ee_cons rfl rfl rfl ee_nil))))))))) (he_cons rfl rfl rfl (row_one (cImage.row_ok _ rfl)) (he_cons rfl rfl rfl (cInt.rows_ok _ rfl) (he_cons rfl rfl rfl (cInt.rows_ok _ rfl) he_nil))) rfl rfl rfl rfl))⟩
                    · refine at_seq ?_
                      refine at_region ?_
                      refine sxk 2 tabOK rfl ?_
                      refine aops_nil ?_
                      refine ct_if hF rfl (fun hc hF => ?_) (fun hc hF => ?_)
                      · refine at_keep [2, 6, 7, 9, 10, 13, 37, 38, 39] rfl ?_
                        refine at_region ?_
                        refine sxk 1 tabOK rfl ?_
                        obtain ⟨hb, hF⟩ := chk_some hF
                        refine s_add tabOK rfl rfl rfl hb rfl ?_
                        refine sxk 2 tabOK rfl ?_
                        refine sc_slit cInt (l := 0) ([(x8 + 1), x11.a] : List Int) tabOK rfl rfl rfl rfl rfl rfl rfl ?_
                        refine sxk 1 tabOK rfl ?_
                        refine aops_nil ?_
                        refine bk_n ?_
                        exact arr_cut ⟨([(x8 + 1), x11.a] : List Int), hF, (le_down (down_all (ee_cons rfl rfl (Nat.le_of_ble_eq_true rfl) (ee_cons rfl rfl (cInstr.ok_psl _ rfl) (ee_cons rfl rfl (Nat.le_of_ble_eq_true rfl) (ee_cons rfl rfl rfl (ee_cons rfl rfl rfl (ee_cons rfl rfl (Nat.le_of_ble_eq_true rfl) (ee_cons rfl rfl (cInstr.ok_psl _ rfl) (ee_cons rfl rfl rfl (ee_cons rfl rfl rfl ee_nil))))))))) (he_cons rfl rfl rfl (row_one (cImage.row_ok _ rfl)) (he_cons rfl rfl rfl (cInt.rows_ok _ rfl) (he_cons rfl rfl rfl (cInt.rows_ok _ rfl) he_nil))) rfl rfl rfl rfl))⟩
                      · refine at_keep [2, 6, 7, 9, 13, 37, 38, 39] rfl ?_
                        refine at_region ?_
                        refine sxk 1 tabOK rfl ?_
                        obtain ⟨hb, hF⟩ := chk_some hF
                        refine s_add tabOK rfl rfl rfl hb rfl ?_
                        refine sc_slit cInt (l := 0) ([(x8 + 1)] : List Int) tabOK rfl rfl rfl rfl rfl rfl rfl ?_
                        refine sxk 1 tabOK rfl ?_
                        refine aops_nil ?_
                        refine bk_n ?_
                        exact arr_cut ⟨([(x8 + 1)] : List Int), hF, (le_down (down_all (ee_cons rfl rfl (Nat.le_of_ble_eq_true rfl) (ee_cons rfl rfl (cInstr.ok_psl _ rfl) (ee_cons rfl rfl (Nat.le_of_ble_eq_true rfl) (ee_cons rfl rfl rfl (ee_cons rfl rfl rfl (ee_cons rfl rfl (Nat.le_of_ble_eq_true rfl) (ee_cons rfl rfl (cInstr.ok_psl _ rfl) (ee_cons rfl rfl rfl (ee_cons rfl rfl rfl ee_nil))))))))) (he_cons rfl rfl rfl (row_one (cImage.row_ok _ rfl)) (he_cons rfl rfl rfl (cInt.rows_ok _ rfl) (he_cons rfl rfl rfl (cInt.rows_ok _ rfl) he_nil))) rfl rfl rfl rfl))⟩
              · rintro next16 hF
                refine at_eq (s' := ⟨[(2, .ptr 3 1 0 0), (6, .psl 0 6 (x3.instrs.map (cInstr.enc 0))), (7, .hsl 4 0 out9.length), (9, .int .i64 x8), (13, .int .i64 ((x15 - x13.1) + x13.2)), (14, .hsl 6 0 next16.length), (37, .psl 0 6 (x3.instrs.map (cInstr.enc 0))), (38, .int .i64 (x3.instrs.length : Int)), (39, .int .i64 x8)], [(3, ⟨2, [cImage.row 0 m]⟩), (4, ⟨1, out9.map (cInt.enc 0)⟩), (6, ⟨1, next16.map (cInt.enc 0)⟩)], 7, 130, []⟩) rfl ?_
                replace hF : i_depthsOf_J4 x3 x8 out9 go10 x13 x15 next16 = some q := hF
                unfold i_depthsOf_J4 at hF
                refine at_seq ?_
                refine at_region ?_
                refine sxk 1 tabOK rfl ?_
                refine sv rfl (oc_hlen cInt tabOK rfl rfl rfl) rfl ?_
                refine sxk 1 tabOK rfl ?_
                refine aops_nil ?_
                refine at_block ?_
                refine cl_loop (σ := Int × List Int) (fun v => match v with | (x17, out18) => ⟨[(2, .ptr 3 1 0 0), (6, .psl 0 6 (x3.instrs.map (cInstr.enc 0))), (7, .hsl 4 0 out18.length), (9, .int .i64 x8), (13, .int .i64 ((x15 - x13.1) + x13.2)), (37, .psl 0 6 (x3.instrs.map (cInstr.enc 0))), (38, .int .i64 (x3.instrs.length : Int)), (39, .int .i64 x8), (93, .hsl 6 0 next16.length), (94, .int .i64 (next16.length : Int)), (95, .int .i64 x17)], [(3, ⟨2, [cImage.row 0 m]⟩), (4, ⟨1, out18.map (cInt.enc 0)⟩), (6, ⟨1, next16.map (cInt.enc 0)⟩)], 7, 130, []⟩) (i_depthsOf_L5 x3 x8 go10 x13 x15 next16) LF (0, out9) hF (le_down (down_all (ee_cons rfl rfl (Nat.le_of_ble_eq_true rfl) (ee_cons rfl rfl (cInstr.ok_psl _ rfl) (ee_cons rfl rfl (Nat.le_of_ble_eq_true rfl) (ee_cons rfl rfl rfl (ee_cons rfl rfl rfl (ee_cons rfl rfl (cInstr.ok_psl _ rfl) (ee_cons rfl rfl rfl (ee_cons rfl rfl rfl (ee_cons rfl rfl (Nat.le_of_ble_eq_true rfl) (ee_cons rfl rfl rfl (ee_cons rfl rfl rfl ee_nil))))))))))) (he_cons rfl rfl rfl (row_one (cImage.row_ok _ rfl)) (he_cons rfl rfl rfl (cInt.rows_ok _ rfl) (he_cons rfl rfl rfl (cInt.rows_ok _ rfl) he_nil))) rfl rfl rfl rfl)) ?_
                rintro lk_ ⟨x17, out18⟩ hF
                refine at_eq (s' := ⟨[(2, .ptr 3 1 0 0), (6, .psl 0 6 (x3.instrs.map (cInstr.enc 0))), (7, .hsl 4 0 out18.length), (9, .int .i64 x8), (13, .int .i64 ((x15 - x13.1) + x13.2)), (37, .psl 0 6 (x3.instrs.map (cInstr.enc 0))), (38, .int .i64 (x3.instrs.length : Int)), (39, .int .i64 x8), (93, .hsl 6 0 next16.length), (94, .int .i64 (next16.length : Int)), (95, .int .i64 x17)], [(3, ⟨2, [cImage.row 0 m]⟩), (4, ⟨1, out18.map (cInt.enc 0)⟩), (6, ⟨1, next16.map (cInt.enc 0)⟩)], 7, 130, []⟩) rfl ?_
                replace hF : i_depthsOf_L5b x3 x8 go10 x13 x15 next16 (itr (i_depthsOf_L5 x3 x8 go10 x13 x15 next16) lk_) x17 out18 = some q := hF
                unfold i_depthsOf_L5b at hF
                generalize itr (i_depthsOf_L5 x3 x8 go10 x13 x15 next16) lk_ = go19 at hF ⊢
                refine at_seq ?_
                refine at_region ?_
                refine sxk 1 tabOK rfl ?_
                refine aops_nil ?_
                refine at_seq ?_
                refine ct_if hF rfl (fun hc hF => ?_) (fun hc hF => ?_)
                · refine at_skip ?_
                  refine at_seq ?_
                  refine at_block ?_
                  refine at_seq ?_
                  refine at_region ?_
                  obtain ⟨x20, hn_x20, hF⟩ := bnd_some hF
                  refine sv rfl (oc_haddr cInt hn_x20 tabOK rfl rfl rfl rfl) rfl ?_
                  refine sv rfl (oc_load cInt hn_x20 tabOK rfl rfl rfl rfl) rfl ?_
                  refine sxk 1 tabOK rfl ?_
                  refine aops_nil ?_
                  refine at_seq ?_
                  refine at_seq ?_
                  refine cl_midn (σ := Bool) (fun x21 => ⟨[(2, .ptr 3 1 0 0), (6, .psl 0 6 (x3.instrs.map (cInstr.enc 0))), (7, .hsl 4 0 out18.length), (9, .int .i64 x8), (13, .int .i64 ((x15 - x13.1) + x13.2)), (16, .int .i64 x20), (37, .psl 0 6 (x3.instrs.map (cInstr.enc 0))), (38, .int .i64 (x3.instrs.length : Int)), (39, .int .i64 x8), (93, .hsl 6 0 next16.length), (94, .int .i64 (next16.length : Int)), (95, .int .i64 x17), (122, .bool x21)], [(3, ⟨2, [cImage.row 0 m]⟩), (4, ⟨1, out18.map (cInt.enc 0)⟩), (6, ⟨1, next16.map (cInt.enc 0)⟩)], 7, 130, []⟩) (fun x21 => i_depthsOf_J6 x13 x15 x17 out18 go19 x20 x21 = some q) ?_ ?_
                  · refine at_region ?_
                    refine sxk 4 tabOK rfl ?_
                    refine ops_if (g := 102) hF rfl (fun hc hF => ?_) (fun hc hF => ?_)
                    · refine sxk 20 tabOK rfl ?_
                      refine aops_nil ?_
                      exact arr_cut ⟨true, hF, (le_down (down_all (ee_cons rfl rfl (Nat.le_of_ble_eq_true rfl) (ee_cons rfl rfl (cInstr.ok_psl _ rfl) (ee_cons rfl rfl (Nat.le_of_ble_eq_true rfl) (ee_cons rfl rfl rfl (ee_cons rfl rfl rfl (ee_cons rfl rfl rfl (ee_cons rfl rfl (cInstr.ok_psl _ rfl) (ee_cons rfl rfl rfl (ee_cons rfl rfl rfl (ee_cons rfl rfl (Nat.le_of_ble_eq_true rfl) (ee_cons rfl rfl rfl (ee_cons rfl rfl rfl (ee_cons rfl rfl rfl ee_nil))))))))))))) (he_cons rfl rfl rfl (row_one (cImage.row_ok _ rfl)) (he_cons rfl rfl rfl (cInt.rows_ok _ rfl) (he_cons rfl rfl rfl (cInt.rows_ok _ rfl) he_nil))) rfl rfl rfl rfl))⟩
                    · refine sxk 2 tabOK rfl ?_
                      refine sv rfl (oc_len cInstr tabOK rfl rfl rfl) rfl ?_
                      refine sxk 3 tabOK rfl ?_
                      refine ops_if (g := 108) hF rfl (fun hc hF => ?_) (fun hc hF => ?_)
                      · refine sxk 14 tabOK rfl ?_
                        refine aops_nil ?_
                        exact arr_cut ⟨true, hF, (le_down (down_all (ee_cons rfl rfl (Nat.le_of_ble_eq_true rfl) (ee_cons rfl rfl (cInstr.ok_psl _ rfl) (ee_cons rfl rfl (Nat.le_of_ble_eq_true rfl) (ee_cons rfl rfl rfl (ee_cons rfl rfl rfl (ee_cons rfl rfl rfl (ee_cons rfl rfl (cInstr.ok_psl _ rfl) (ee_cons rfl rfl rfl (ee_cons rfl rfl rfl (ee_cons rfl rfl (Nat.le_of_ble_eq_true rfl) (ee_cons rfl rfl rfl (ee_cons rfl rfl rfl (ee_cons rfl rfl rfl ee_nil))))))))))))) (he_cons rfl rfl rfl (row_one (cImage.row_ok _ rfl)) (he_cons rfl rfl rfl (cInt.rows_ok _ rfl) (he_cons rfl rfl rfl (cInt.rows_ok _ rfl) he_nil))) rfl rfl rfl rfl))⟩
                      · refine sxk 2 tabOK rfl ?_
                        obtain ⟨x21, hn_x21, hF⟩ := bnd_some hF
                        refine sv rfl (oc_haddr cInt hn_x21 tabOK rfl rfl rfl rfl) rfl ?_
                        refine sv rfl (oc_load cInt hn_x21 tabOK rfl rfl rfl rfl) rfl ?_
                        refine sxk 2 tabOK rfl ?_
                        refine ops_if (g := 114) hF rfl (fun hc hF => ?_) (fun hc hF => ?_)
                        · refine sxk 2 tabOK rfl ?_
                          obtain ⟨x22, hn_x22, hF⟩ := bnd_some hF
                          refine sv rfl (oc_haddr cInt hn_x22 tabOK rfl rfl rfl rfl) rfl ?_
                          refine sv rfl (oc_load cInt hn_x22 tabOK rfl rfl rfl rfl) rfl ?_
                          refine sxk 4 tabOK rfl ?_
                          refine aops_nil ?_
                          exact arr_cut ⟨(!decide (x22 = ((x15 - x13.1) + x13.2))), hF, (le_down (down_all (ee_cons rfl rfl (Nat.le_of_ble_eq_true rfl) (ee_cons rfl rfl (cInstr.ok_psl _ rfl) (ee_cons rfl rfl (Nat.le_of_ble_eq_true rfl) (ee_cons rfl rfl rfl (ee_cons rfl rfl rfl (ee_cons rfl rfl rfl (ee_cons rfl rfl (cInstr.ok_psl _ rfl) (ee_cons rfl rfl rfl (ee_cons rfl rfl rfl (ee_cons rfl rfl (Nat.le_of_ble_eq_true rfl) (ee_cons rfl rfl rfl (ee_cons rfl rfl rfl (ee_cons rfl rfl rfl ee_nil))))))))))))) (he_cons rfl rfl rfl (row_one (cImage.row_ok _ rfl)) (he_cons rfl rfl rfl (cInt.rows_ok _ rfl) (he_cons rfl rfl rfl (cInt.rows_ok _ rfl) he_nil))) rfl rfl rfl rfl))⟩
                        · refine sxk 8 tabOK rfl ?_
                          refine aops_nil ?_
                          exact arr_cut ⟨false, hF, (le_down (down_all (ee_cons rfl rfl (Nat.le_of_ble_eq_true rfl) (ee_cons rfl rfl (cInstr.ok_psl _ rfl) (ee_cons rfl rfl (Nat.le_of_ble_eq_true rfl) (ee_cons rfl rfl rfl (ee_cons rfl rfl rfl (ee_cons rfl rfl rfl (ee_cons rfl rfl (cInstr.ok_psl _ rfl) (ee_cons rfl rfl rfl (ee_cons rfl rfl rfl (ee_cons rfl rfl (Nat.le_of_ble_eq_true rfl) (ee_cons rfl rfl rfl (ee_cons rfl rfl rfl (ee_cons rfl rfl rfl ee_nil))))))))))))) (he_cons rfl rfl rfl (row_one (cImage.row_ok _ rfl)) (he_cons rfl rfl rfl (cInt.rows_ok _ rfl) (he_cons rfl rfl rfl (cInt.rows_ok _ rfl) he_nil))) rfl rfl rfl rfl))⟩
                  · rintro x21 hF
                    refine at_eq (s' := ⟨[(2, .ptr 3 1 0 0), (6, .psl 0 6 (x3.instrs.map (cInstr.enc 0))), (7, .hsl 4 0 out18.length), (9, .int .i64 x8), (13, .int .i64 ((x15 - x13.1) + x13.2)), (16, .int .i64 x20), (37, .psl 0 6 (x3.instrs.map (cInstr.enc 0))), (38, .int .i64 (x3.instrs.length : Int)), (39, .int .i64 x8), (93, .hsl 6 0 next16.length), (94, .int .i64 (next16.length : Int)), (95, .int .i64 x17), (122, .bool x21)], [(3, ⟨2, [cImage.row 0 m]⟩), (4, ⟨1, out18.map (cInt.enc 0)⟩), (6, ⟨1, next16.map (cInt.enc 0)⟩)], 7, 130, []⟩) rfl ?_
                    replace hF : i_depthsOf_J6 x13 x15 x17 out18 go19 x20 x21 = some q := hF
                    unfold i_depthsOf_J6 at hF
                    refine ct_b hF rfl (fun hc hF => ?_) (fun hc hF => ?_)
                    · refine at_seq ?_
                      refine at_keep [] rfl ?_
                      refine at_region ?_
                      refine sxk 2 tabOK rfl ?_
                      refine aops_nil ?_
                      refine at_ret ?_
                      refine tk_r ?_
                      refine bk_r ?_
                      refine tk_r ?_
                      refine ll_r ?_
                      refine bk_r ?_
                      refine bk_r ?_
                      refine tk_r ?_
                      refine ll_r ?_
                      refine bk_r ?_
                      refine tk_r ?_
                      obtain rfl := Option.some.inj hF
                      refine ret_le rfl ?_
                      exact (vle_tup (.cons (vle_nil _ _) (.cons (vle_refl _) .nil)))
                    · refine at_skip ?_
                      refine at_region ?_
                      refine sxk 3 tabOK rfl ?_
                      obtain ⟨x22, hn_x22, hF⟩ := bnd_some hF
                      refine sv rfl (oc_haddr cInt hn_x22 tabOK rfl rfl rfl rfl) rfl ?_
                      refine sc_store cInt (v' := ((x15 - x13.1) + x13.2)) hn_x22 tabOK rfl rfl rfl rfl rfl rfl rfl rfl ?_
                      refine ops_le (le_slot (y := .hsl 4 0 (out18.set x20.toNat ((x15 - x13.1) + x13.2)).length) 7 rfl (vle_eq (congrArg (V.hsl 4 0) (by simp))) rfl) ?_
                      refine aops_nil ?_
                      refine bk_n ?_
                      refine at_region ?_
                      obtain ⟨hb, hF⟩ := chk_some hF
                      refine s_add tabOK rfl rfl rfl hb rfl ?_
                      refine sxk 1 tabOK rfl ?_
                      refine aops_nil ?_
                      exact arr_loop ⟨((x17 + 1), (out18.set x20.toNat ((x15 - x13.1) + x13.2))), hF, (le_down (down_all (ee_cons rfl rfl (Nat.le_of_ble_eq_true rfl) (ee_cons rfl rfl (cInstr.ok_psl _ rfl) (ee_cons rfl rfl (Nat.le_of_ble_eq_true rfl) (ee_cons rfl rfl rfl (ee_cons rfl rfl rfl (ee_cons rfl rfl (cInstr.ok_psl _ rfl) (ee_cons rfl rfl rfl (ee_cons rfl rfl rfl (ee_cons rfl rfl (Nat.le_of_ble_eq_true rfl) (ee_cons rfl rfl rfl (ee_cons rfl rfl rfl ee_nil))))))))))) (he_cons rfl rfl rfl (row_one (cImage.row_ok _ rfl)) (he_cons rfl rfl rfl (cInt.rows_ok _ rfl) (he_cons rfl rfl rfl (cInt.rows_ok _ rfl) he_nil))) rfl rfl rfl rfl))⟩
                · refine at_exit ?_
                  refine tk_x ?_
                  refine ll_x ?_
                  refine bk_hit ?_
                  refine bk_n ?_
                  exact arr_cut ⟨out18, hF, (le_down (down_all (ee_cons rfl rfl (Nat.le_of_ble_eq_true rfl) (ee_cons rfl rfl (cInstr.ok_psl _ rfl) (ee_cons rfl rfl (Nat.le_of_ble_eq_true rfl) (ee_cons rfl rfl (cInstr.ok_psl _ rfl) (ee_cons rfl rfl rfl (ee_cons rfl rfl rfl ee_nil)))))) (he_cons rfl rfl rfl (row_one (cImage.row_ok _ rfl)) (he_cons rfl rfl rfl (cInt.rows_ok _ rfl) he_nil)) rfl rfl rfl rfl))⟩
      · rintro out11 hF
        refine at_eq (s' := ⟨[(2, .ptr 3 1 0 0), (6, .psl 0 6 (x3.instrs.map (cInstr.enc 0))), (7, .hsl 4 0 out11.length), (37, .psl 0 6 (x3.instrs.map (cInstr.enc 0))), (38, .int .i64 (x3.instrs.length : Int)), (39, .int .i64 x8)], [(3, ⟨2, [cImage.row 0 m]⟩), (4, ⟨1, out11.map (cInt.enc 0)⟩)], 5, 130, []⟩) rfl ?_
        replace hF : i_depthsOf_J3 x8 go10 out11 = some q := hF
        unfold i_depthsOf_J3 at hF
        refine at_region ?_
        obtain ⟨hb, hF⟩ := chk_some hF
        refine s_add tabOK rfl rfl rfl hb rfl ?_
        refine sxk 1 tabOK rfl ?_
        refine aops_nil ?_
        exact arr_loop ⟨((x8 + 1), out11), hF, (le_down (down_all (ee_cons rfl rfl (Nat.le_of_ble_eq_true rfl) (ee_cons rfl rfl (cInstr.ok_psl _ rfl) (ee_cons rfl rfl (Nat.le_of_ble_eq_true rfl) (ee_cons rfl rfl (cInstr.ok_psl _ rfl) (ee_cons rfl rfl rfl (ee_cons rfl rfl rfl ee_nil)))))) (he_cons rfl rfl rfl (row_one (cImage.row_ok _ rfl)) (he_cons rfl rfl rfl (cInt.rows_ok _ rfl) he_nil)) rfl rfl rfl rfl))⟩
    · refine at_exit ?_
      refine tk_x ?_
      refine ll_x ?_
      refine bk_hit ?_
      refine at_seq ?_
      refine at_region ?_
      refine sxk 3 tabOK rfl ?_
      refine aops_nil ?_
      refine at_le (le_freeze 4 rfl rfl (by simp) rfl) ?_
      refine at_ret ?_
      obtain rfl := Option.some.inj hF
      refine ret_le rfl ?_
      exact (vle_tup (.cons (vle_refl _) (.cons (vle_refl _) .nil)))

theorem i_namesCode_ok (op : Int) (q : Bool) (hF : i_namesCode op = some q) : FC Try.prog 86 [.int .i64 op] [] 3 (fun x _ => x = .bool q) := by
  refine FC.of_le ?_
  refine fc_body tabOK Try.func86 rfl Try.ntmps86 rfl rfl rfl ?_
  unfold i_namesCode at hF
  refine at_seq ?_
  refine at_region ?_
  refine sxk 1 tabOK rfl ?_
  refine aops_nil ?_
  refine at_seq ?_
  refine at_region ?_
  refine sxk 3 tabOK rfl ?_
  refine ops_if (g := 5) hF rfl (fun hc hF => ?_) (fun hc hF => ?_)
  · refine sxk 12 tabOK rfl ?_
    refine aops_nil ?_
    refine at_ret ?_
    obtain rfl := Option.some.inj hF
    refine ret_le rfl ?_
    exact (vle_refl _)
  · refine sxk 4 tabOK rfl ?_
    refine ops_if (g := 9) hF rfl (fun hc hF => ?_) (fun hc hF => ?_)
    · refine sxk 8 tabOK rfl ?_
      refine aops_nil ?_
      refine at_ret ?_
      obtain rfl := Option.some.inj hF
      refine ret_le rfl ?_
      exact (vle_refl _)
    · refine sxk 4 tabOK rfl ?_
      refine ops_if (g := 13) hF rfl (fun hc hF => ?_) (fun hc hF => ?_)
      · refine sxk 4 tabOK rfl ?_
        refine aops_nil ?_
        refine at_ret ?_
        obtain rfl := Option.some.inj hF
        refine ret_le rfl ?_
        exact (vle_refl _)
      · refine sxk 4 tabOK rfl ?_
        refine aops_nil ?_
        refine at_ret ?_
        obtain rfl := Option.some.inj hF
        refine ret_le rfl ?_
        exact (vle_refl _)

theorem i_IsImage_ok (m : PImage) (captures : Int) (q : Bool) (hF : i_IsImage m captures = some q) : FC Try.prog 42 [.agg (cImage.row 0 m), .int .i64 captures] [] 3 (fun x _ => x = .bool q) := by
  refine FC.of_le ?_
  refine fc_body tabOK Try.func42 rfl Try.ntmps42 rfl rfl rfl ?_
  unfold i_IsImage at hF
  refine at_seq ?_
  refine at_region ?_
  refine sxk 2 tabOK rfl ?_
  refine aops_nil ?_
  refine at_seq ?_
  refine at_region ?_
  refine sxk 2 tabOK rfl ?_
  refine sv rfl (oc_len cCode tabOK rfl rfl rfl) rfl ?_
  refine sxk 1 tabOK rfl ?_
  refine aops_nil ?_
  refine at_seq ?_
  refine at_seq ?_
  refine at_region ?_
  refine sxk 3 tabOK rfl ?_
  refine ops_if (g := 21) hF rfl (fun hc hF => ?_) (fun hc hF => ?_)
  · refine sxk 31 tabOK rfl ?_
    refine aops_nil ?_
    refine at_true rfl ?_
    refine at_seq ?_
    refine at_keep [] rfl ?_
    refine at_region ?_
    refine sxk 1 tabOK rfl ?_
    refine aops_nil ?_
    refine at_ret ?_
    refine tk_r ?_
    obtain rfl := Option.some.inj hF
    refine ret_le rfl ?_
    exact (vle_refl _)
  · refine sxk 4 tabOK rfl ?_
    refine ops_if (g := 25) hF rfl (fun hc hF => ?_) (fun hc hF => ?_)
    · refine sxk 27 tabOK rfl ?_
      refine aops_nil ?_
      refine at_true rfl ?_
      refine at_seq ?_
      refine at_keep [] rfl ?_
      refine at_region ?_
      refine sxk 1 tabOK rfl ?_
      refine aops_nil ?_
      refine at_ret ?_
      refine tk_r ?_
      obtain rfl := Option.some.inj hF
      refine ret_le rfl ?_
      exact (vle_refl _)
    · refine sxk 3 tabOK rfl ?_
      obtain ⟨hb, hF⟩ := chk_some hF
      refine s_sub tabOK rfl rfl rfl hb rfl ?_
      refine sxk 3 tabOK rfl ?_
      refine ops_ifn (g := 32) hF rfl (fun hc hF => ?_) (fun hc hF => ?_)
      · refine sxk 20 tabOK rfl ?_
        refine aops_nil ?_
        refine at_true rfl ?_
        refine at_seq ?_
        refine at_keep [] rfl ?_
        refine at_region ?_
        refine sxk 1 tabOK rfl ?_
        refine aops_nil ?_
        refine at_ret ?_
        refine tk_r ?_
        obtain rfl := Option.some.inj hF
        refine ret_le rfl ?_
        exact (vle_refl _)
      · refine sxk 3 tabOK rfl ?_
        obtain ⟨hb, hF⟩ := chk_some hF
        refine s_sub tabOK rfl rfl rfl hb rfl ?_
        obtain ⟨x3, hn_x3, hF⟩ := bnd_some hF
        refine sv rfl (oc_addr cCode hn_x3 tabOK rfl rfl rfl rfl) rfl ?_
        refine sxk 5 tabOK rfl ?_
        refine ops_ifn (g := 42) hF rfl (fun hc hF => ?_) (fun hc hF => ?_)
        · refine sxk 10 tabOK rfl ?_
          refine aops_nil ?_
          refine at_true rfl ?_
          refine at_seq ?_
          refine at_keep [] rfl ?_
          refine at_region ?_
          refine sxk 1 tabOK rfl ?_
          refine aops_nil ?_
          refine at_ret ?_
          refine tk_r ?_
          obtain rfl := Option.some.inj hF
          refine ret_le rfl ?_
          exact (vle_refl _)
        · refine sxk 3 tabOK rfl ?_
          obtain ⟨hb, hF⟩ := chk_some hF
          refine s_sub tabOK rfl rfl rfl hb rfl ?_
          obtain ⟨x4, hn_x4, hF⟩ := bnd_some hF
          refine sv rfl (oc_addr cCode hn_x4 tabOK rfl rfl rfl rfl) rfl ?_
          refine sxk 5 tabOK rfl ?_
          refine aops_nil ?_
          refine ct_ifn hF rfl (fun hc hF => ?_) (fun hc hF => ?_)
          · refine at_seq ?_
            refine at_keep [] rfl ?_
            refine at_region ?_
            refine sxk 1 tabOK rfl ?_
            refine aops_nil ?_
            refine at_ret ?_
            refine tk_r ?_
            obtain rfl := Option.some.inj hF
            refine ret_le rfl ?_
            exact (vle_refl _)
          · refine at_skip ?_
            refine at_seq ?_
            refine at_keep [2, 5] rfl ?_
            refine at_region ?_
            refine sxk 1 tabOK rfl ?_
            refine aops_nil ?_
            refine at_seq ?_
            refine at_region ?_
            refine sxk 1 tabOK rfl ?_
            obtain ⟨hb, hF⟩ := chk_some hF
            refine sc_make cInt (l := 0) (v := (0 : Int)) hb tabOK rfl rfl rfl rfl (vleL_refl _) rfl rfl rfl ?_
            refine sxk 1 tabOK rfl ?_
            refine aops_nil ?_
            refine at_seq ?_
            refine at_seq ?_
            refine at_region ?_
            refine sxk 2 tabOK rfl ?_
            refine sv rfl (oc_len cCode tabOK rfl rfl rfl) rfl ?_
            refine sxk 1 tabOK rfl ?_
            refine aops_nil ?_
            refine at_block ?_
            refine cl_loop (σ := Int × Int × List Int) (fun v => match v with | (total5, x6, named7) => ⟨[(2, .ptr 3 1 0 0), (5, .int .i64 (m.codes.length : Int)), (6, .int .i64 total5), (7, .hsl 4 0 named7.length), (56, .psl 0 4 (m.codes.map (cCode.enc 0))), (57, .int .i64 (m.codes.length : Int)), (58, .int .i64 x6)], [(3, ⟨2, [cImage.row 0 m]⟩), (4, ⟨1, named7.map (cInt.enc 0)⟩)], 5, 113, []⟩) (i_IsImage_L1 m) LF (0, 0, (List.replicate (m.codes.length : Int).toNat (0 : Int))) hF (le_down (down_all (ee_cons rfl rfl (Nat.le_of_ble_eq_true rfl) (ee_cons rfl rfl rfl (ee_cons rfl rfl rfl (ee_cons rfl rfl (Nat.le_of_ble_eq_true rfl) (ee_cons rfl rfl (cCode.ok_psl _ rfl) (ee_cons rfl rfl rfl (ee_cons rfl rfl rfl ee_nil))))))) (he_cons rfl rfl rfl (row_one (cImage.row_ok _ rfl)) (he_cons rfl rfl rfl (cInt.rows_ok _ rfl) he_nil)) rfl rfl rfl rfl)) ?_
            rintro lk_ ⟨total5, x6, named7⟩ hF
            refine at_eq (s' := ⟨[(2, .ptr 3 1 0 0), (5, .int .i64 (m.codes.length : Int)), (6, .int .i64 total5), (7, .hsl 4 0 named7.length), (56, .psl 0 4 (m.codes.map (cCode.enc 0))), (57, .int .i64 (m.codes.length : Int)), (58, .int .i64 x6)], [(3, ⟨2, [cImage.row 0 m]⟩), (4, ⟨1, named7.map (cInt.enc 0)⟩)], 5, 113, []⟩) rfl ?_
            replace hF : i_IsImage_L1b m (itr (i_IsImage_L1 m) lk_) total5 x6 named7 = some q := hF
            unfold i_IsImage_L1b at hF
            generalize itr (i_IsImage_L1 m) lk_ = go8 at hF ⊢
            refine at_seq ?_
            refine at_region ?_
            refine sxk 1 tabOK rfl ?_
            refine aops_nil ?_
            refine at_seq ?_
            refine ct_if hF rfl (fun hc hF => ?_) (fun hc hF => ?_)
            · refine at_skip ?_
              refine at_seq ?_
              refine at_block ?_
              refine at_seq ?_
              refine at_region ?_
              refine sxk 1 tabOK rfl ?_
              obtain ⟨x9, hn_x9, hF⟩ := bnd_some hF
              refine sv rfl (oc_addr cCode hn_x9 tabOK rfl rfl rfl rfl) rfl ?_
              refine sxk 4 tabOK rfl ?_
              refine aops_nil ?_
              refine at_seq ?_
              refine at_seq ?_
              refine at_region ?_
              refine sxk 2 tabOK rfl ?_
              obtain ⟨x10, hx10, hF⟩ := bnd_some hF
              refine call_eq (i_codeOk_ok m x6 x10 hx10) rfl ((rlL_cons (cImage.rl_agg (l := 0) (l' := 0) _ m rfl) (rlL_cons (rfl) rlL_nil))) rfl rfl ?_
              refine sxk 1 tabOK rfl ?_
              refine aops_nil ?_
              refine ct_bn hF rfl (fun hc hF => ?_) (fun hc hF => ?_)
              · refine at_seq ?_
                refine at_keep [] rfl ?_
                refine at_region ?_
                refine sxk 1 tabOK rfl ?_
                refine aops_nil ?_
                refine at_ret ?_
                refine tk_r ?_
                refine bk_r ?_
                refine tk_r ?_
                refine ll_r ?_
                refine bk_r ?_
                refine tk_r ?_
                obtain rfl := Option.some.inj hF
                refine ret_le rfl ?_
                exact (vle_refl _)
              · refine at_skip ?_
                refine at_seq ?_
                refine at_seq ?_
                refine at_keep [2, 5, 6, 7, 8, 9, 56, 57, 58] rfl ?_
                refine at_region ?_
                refine sxk 2 tabOK rfl ?_
                obtain ⟨x11, hx11, hF⟩ := bnd_some hF
                refine call_eq (i_depthsOf_ok m x6 x11 hx11) rfl ((rlL_cons (cImage.rl_agg (l := 0) (l' := 0) _ m rfl) (rlL_cons (rfl) rlL_nil))) (rl_tupL (rlL_cons (cInt.rl_psl (l := 1) (l' := 1) _ x11.1 rfl) (rlL_cons (rfl) rlL_nil))) rfl ?_
                refine sxk 5 tabOK rfl ?_
                refine aops_nil ?_
                refine at_seq ?_
                refine at_keep [2, 5, 6, 7, 9, 11, 56, 57, 58] rfl ?_
                refine at_region ?_
                refine sxk 2 tabOK rfl ?_
                refine aops_nil ?_
                refine ct_bn hF rfl (fun hc hF => ?_) (fun hc hF => ?_)
                · refine at_seq ?_
                  refine at_keep [] rfl ?_
                  refine at_region ?_
                  refine sxk 1 tabOK rfl ?_
                  refine aops_nil ?_
                  refine at_ret ?_
                  refine tk_r ?_
                  refine bk_r ?_
                  refine tk_r ?_
                  refine ll_r ?_
                  refine bk_r ?_
                  refine tk_r ?_
                  obtain rfl := Option.some.inj hF
                  refine ret_le rfl ?_
                  exact (vle_refl _)
                · refine at_skip ?_
                  refine at_seq ?_
                  refine at_region ?_
                  refine sxk 3 tabOK rfl ?_
                  refine sv rfl (oc_len cInstr tabOK rfl rfl rfl) rfl ?_
                  obtain ⟨hb, hF⟩ := chk_some hF
                  refine s_add tabOK rfl rfl rfl hb rfl ?_
                  refine sxk 1 tabOK rfl ?_
                  refine aops_nil ?_
                  refine at_seq ?_
                  refine at_keep [2, 5, 6, 7, 9, 56, 57, 58] rfl ?_
                  refine at_region ?_
                  refine sxk 2 tabOK rfl ?_
                  refine sv rfl (oc_len cInstr tabOK rfl rfl rfl) rfl ?_
                  refine sxk 1 tabOK rfl ?_
                  refine aops_nil ?_
                  refine at_block ?_
                  refine cl_loop (σ := Int × List Int) (fun v => match v with | (x12, named13) => ⟨[(2, .ptr 3 1 0 0), (5, .int .i64 (m.codes.length : Int)), (6, .int .i64 (total5 + (x9.instrs.length : Int))), (7, .hsl 4 0 named13.length), (56, .psl 0 4 (m.codes.map (cCode.enc 0))), (57, .int .i64 (m.codes.length : Int)), (58, .int .i64 x6), (81, .psl 0 6 (x9.instrs.map (cInstr.enc 0))), (82, .int .i64 (x9.instrs.length : Int)), (83, .int .i64 x12)], [(3, ⟨2, [cImage.row 0 m]⟩), (4, ⟨1, named13.map (cInt.enc 0)⟩)], 6, 113, []⟩) (i_IsImage_L2 total5 x6 go8 x9) LF (0, named7) hF (le_down (down_all (ee_cons rfl rfl (Nat.le_of_ble_eq_true rfl) (ee_cons rfl rfl rfl (ee_cons rfl rfl rfl (ee_cons rfl rfl (Nat.le_of_ble_eq_true rfl) (ee_cons rfl rfl (cCode.ok_psl _ rfl) (ee_cons rfl rfl rfl (ee_cons rfl rfl rfl (ee_cons rfl rfl (cInstr.ok_psl _ rfl) (ee_cons rfl rfl rfl (ee_cons rfl rfl rfl ee_nil)))))))))) (he_cons rfl rfl rfl (row_one (cImage.row_ok _ rfl)) (he_cons rfl rfl rfl (cInt.rows_ok _ rfl) he_nil)) rfl rfl rfl rfl)) ?_
                  rintro lk_ ⟨x12, named13⟩ hF
                  refine at_eq (s' := ⟨[(2, .ptr 3 1 0 0), (5, .int .i64 (m.codes.length : Int)), (6, .int .i64 (total5 + (x9.instrs.length : Int))), (7, .hsl 4 0 named13.length), (56, .psl 0 4 (m.codes.map (cCode.enc 0))), (57, .int .i64 (m.codes.length : Int)), (58, .int .i64 x6), (81, .psl 0 6 (x9.instrs.map (cInstr.enc 0))), (82, .int .i64 (x9.instrs.length : Int)), (83, .int .i64 x12)], [(3, ⟨2, [cImage.row 0 m]⟩), (4, ⟨1, named13.map (cInt.enc 0)⟩)], 6, 113, []⟩) rfl ?_
                  replace hF : i_IsImage_L2b total5 x6 go8 x9 (itr (i_IsImage_L2 total5 x6 go8 x9) lk_) x12 named13 = some q := hF
                  unfold i_IsImage_L2b at hF
                  generalize itr (i_IsImage_L2 total5 x6 go8 x9) lk_ = go14 at hF ⊢
                  refine at_seq ?_
                  refine at_region ?_
                  refine sxk 1 tabOK rfl ?_
                  refine aops_nil ?_
                  refine at_seq ?_
                  refine ct_if hF rfl (fun hc hF => ?_) (fun hc hF => ?_)
                  · refine at_skip ?_
                    refine at_seq ?_
                    refine cl_midn (σ := List Int) (fun named15 => ⟨[(2, .ptr 3 1 0 0), (5, .int .i64 (m.codes.length : Int)), (6, .int .i64 (total5 + (x9.instrs.length : Int))), (7, .hsl 4 0 named15.length), (56, .psl 0 4 (m.codes.map (cCode.enc 0))), (57, .int .i64 (m.codes.length : Int)), (58, .int .i64 x6), (81, .psl 0 6 (x9.instrs.map (cInstr.enc 0))), (82, .int .i64 (x9.instrs.length : Int)), (83, .int .i64 x12)], [(3, ⟨2, [cImage.row 0 m]⟩), (4, ⟨1, named15.map (cInt.enc 0)⟩)], 5, 113, []⟩) (fun named15 => i_IsImage_J3 x12 go14 named15 = some q) ?_ ?_
                    · refine at_block ?_
                      refine at_seq ?_
                      refine at_region ?_
                      obtain ⟨x15, hn_x15, hF⟩ := bnd_some hF
                      refine sv rfl (oc_addr cInstr hn_x15 tabOK rfl rfl rfl rfl) rfl ?_
                      refine sxk 3 tabOK rfl ?_
                      refine aops_nil ?_
                      refine at_seq ?_
                      refine at_region ?_
                      refine sxk 2 tabOK rfl ?_
                      obtain ⟨x16, hx16, hF⟩ := bnd_some hF
                      refine call_eq (i_namesCode_ok x15.op x16 hx16) rfl ((rlL_cons (rfl) rlL_nil)) rfl rfl ?_
                      refine aops_nil ?_
                      refine ct_b hF rfl (fun hc hF => ?_) (fun hc hF => ?_)
                      · refine at_region ?_
                        refine sxk 3 tabOK rfl ?_
                        obtain ⟨x17, hn_x17, hF⟩ := bnd_some hF
                        refine sv rfl (oc_haddr cInt hn_x17 tabOK rfl rfl rfl rfl) rfl ?_
                        refine sv rfl (oc_load cInt hn_x17 tabOK rfl rfl rfl rfl) rfl ?_
                        obtain ⟨hb, hF⟩ := chk_some hF
                        refine s_add tabOK rfl rfl rfl hb rfl ?_
                        obtain ⟨x18, hn_x18, hF⟩ := bnd_some hF
                        refine sv rfl (oc_haddr cInt hn_x18 tabOK rfl rfl rfl rfl) rfl ?_
                        refine sc_store cInt (v' := (x17 + 1)) hn_x18 tabOK rfl rfl rfl rfl rfl rfl rfl rfl ?_
                        refine ops_le (le_slot (y := .hsl 4 0 (named13.set x15.a.toNat (x17 + 1)).length) 7 rfl (vle_eq (congrArg (V.hsl 4 0) (by simp))) rfl) ?_
                        refine aops_nil ?_
                        refine bk_n ?_
                        exact arr_cut ⟨(named13.set x15.a.toNat (x17 + 1)), hF, (le_down (down_all (ee_cons rfl rfl (Nat.le_of_ble_eq_true rfl) (ee_cons rfl rfl rfl (ee_cons rfl rfl rfl (ee_cons rfl rfl (Nat.le_of_ble_eq_true rfl) (ee_cons rfl rfl (cCode.ok_psl _ rfl) (ee_cons rfl rfl rfl (ee_cons rfl rfl rfl (ee_cons rfl rfl (cInstr.ok_psl _ rfl) (ee_cons rfl rfl rfl (ee_cons rfl rfl rfl ee_nil)))))))))) (he_cons rfl rfl rfl (row_one (cImage.row_ok _ rfl)) (he_cons rfl rfl rfl (cInt.rows_ok _ rfl) he_nil)) rfl rfl rfl rfl))⟩
                      · refine at_skip ?_
                        refine bk_n ?_
                        exact arr_cut ⟨named13, hF, (le_down (down_all (ee_cons rfl rfl (Nat.le_of_ble_eq_true rfl) (ee_cons rfl rfl rfl (ee_cons rfl rfl rfl (ee_cons rfl rfl (Nat.le_of_ble_eq_true rfl) (ee_cons rfl rfl (cCode.ok_psl _ rfl) (ee_cons rfl rfl rfl (ee_cons rfl rfl rfl (ee_cons rfl rfl (cInstr.ok_psl _ rfl) (ee_cons rfl rfl rfl (ee_cons rfl rfl rfl ee_nil)))))))))) (he_cons rfl rfl rfl (row_one (cImage.row_ok _ rfl)) (he_cons rfl rfl rfl (cInt.rows_ok _ rfl) he_nil)) rfl rfl rfl rfl))⟩
                    · rintro named15 hF
                      refine at_eq (s' := ⟨[(2, .ptr 3 1 0 0), (5, .int .i64 (m.codes.length : Int)), (6, .int .i64 (total5 + (x9.instrs.length : Int))), (7, .hsl 4 0 named15.length), (56, .psl 0 4 (m.codes.map (cCode.enc 0))), (57, .int .i64 (m.codes.length : Int)), (58, .int .i64 x6), (81, .psl 0 6 (x9.instrs.map (cInstr.enc 0))), (82, .int .i64 (x9.instrs.length : Int)), (83, .int .i64 x12)], [(3, ⟨2, [cImage.row 0 m]⟩), (4, ⟨1, named15.map (cInt.enc 0)⟩)], 5, 113, []⟩) rfl ?_
                      replace hF : i_IsImage_J3 x12 go14 named15 = some q := hF
                      unfold i_IsImage_J3 at hF
                      refine at_region ?_
                      obtain ⟨hb, hF⟩ := chk_some hF
                      refine s_add tabOK rfl rfl rfl hb rfl ?_
                      refine sxk 1 tabOK rfl ?_
                      refine aops_nil ?_
                      exact arr_loop ⟨((x12 + 1), named15), hF, ((le_bump 6 rfl rfl).trans (le_down (down_all (ee_cons rfl rfl (Nat.le_of_ble_eq_true rfl) (ee_cons rfl rfl rfl (ee_cons rfl rfl rfl (ee_cons rfl rfl (Nat.le_of_ble_eq_true rfl) (ee_cons rfl rfl (cCode.ok_psl _ rfl) (ee_cons rfl rfl rfl (ee_cons rfl rfl rfl (ee_cons rfl rfl (cInstr.ok_psl _ rfl) (ee_cons rfl rfl rfl (ee_cons rfl rfl rfl ee_nil)))))))))) (he_cons rfl rfl rfl (row_one (cImage.row_ok _ rfl)) (he_cons rfl rfl rfl (cInt.rows_ok _ rfl) he_nil)) rfl rfl rfl rfl)))⟩
                  · refine at_exit ?_
                    refine tk_x ?_
                    refine ll_x ?_
                    refine bk_hit ?_
                    refine bk_n ?_
                    refine at_region ?_
                    obtain ⟨hb, hF⟩ := chk_some hF
                    refine s_add tabOK rfl rfl rfl hb rfl ?_
                    refine sxk 1 tabOK rfl ?_
                    refine aops_nil ?_
                    exact arr_loop ⟨((total5 + (x9.instrs.length : Int)), (x6 + 1), named13), hF, (le_down (down_all (ee_cons rfl rfl (Nat.le_of_ble_eq_true rfl) (ee_cons rfl rfl rfl (ee_cons rfl rfl rfl (ee_cons rfl rfl (Nat.le_of_ble_eq_true rfl) (ee_cons rfl rfl (cCode.ok_psl _ rfl) (ee_cons rfl rfl rfl (ee_cons rfl rfl rfl ee_nil))))))) (he_cons rfl rfl rfl (row_one (cImage.row_ok _ rfl)) (he_cons rfl rfl rfl (cInt.rows_ok _ rfl) he_nil)) rfl rfl rfl rfl))⟩
            · refine at_exit ?_
              refine tk_x ?_
              refine ll_x ?_
              refine bk_hit ?_
              refine at_seq ?_
              refine at_seq ?_
              refine at_region ?_
              refine sxk 2 tabOK rfl ?_
              obtain ⟨hb, hF⟩ := chk_some hF
              refine s_sub tabOK rfl rfl rfl hb rfl ?_
              obtain ⟨hb, hF⟩ := chk_some hF
              refine ops_le (le_freeze 99 rfl rfl (by simp) rfl) ?_
              refine sv rfl (oc_psub_h cInt hb tabOK rfl rfl rfl rfl) rfl ?_
              refine sv rfl (oc_len cInt tabOK rfl rfl rfl) rfl ?_
              refine sxk 1 tabOK rfl ?_
              refine aops_nil ?_
              refine at_block ?_
              refine cl_loop (σ := Int) (fun x9 => ⟨[(6, .int .i64 total5), (102, .psl 1 1 ((named7.take ((m.codes.length : Int) - 1).toNat).map (cInt.enc 1))), (103, .int .i64 ((named7.take ((m.codes.length : Int) - 1).toNat).length : Int)), (104, .int .i64 x9)], [], 5, 113, []⟩) (i_IsImage_L4 m total5 named7) LF 0 hF (le_down (down_all (ee_cons rfl rfl rfl (ee_cons rfl rfl (cInt.ok_psl _ rfl) (ee_cons rfl rfl rfl (ee_cons rfl rfl rfl ee_nil)))) he_nil rfl rfl rfl rfl)) ?_
              rintro lk_ x9 hF
              refine at_eq (s' := ⟨[(6, .int .i64 total5), (102, .psl 1 1 ((named7.take ((m.codes.length : Int) - 1).toNat).map (cInt.enc 1))), (103, .int .i64 ((named7.take ((m.codes.length : Int) - 1).toNat).length : Int)), (104, .int .i64 x9)], [], 5, 113, []⟩) rfl ?_
              replace hF : i_IsImage_L4b m total5 named7 (itr (i_IsImage_L4 m total5 named7) lk_) x9 = some q := hF
              unfold i_IsImage_L4b at hF
              generalize itr (i_IsImage_L4 m total5 named7) lk_ = go10 at hF ⊢
              refine at_seq ?_
              refine at_region ?_
              refine sxk 1 tabOK rfl ?_
              refine aops_nil ?_
              refine at_seq ?_
              refine ct_if hF rfl (fun hc hF => ?_) (fun hc hF => ?_)
              · refine at_skip ?_
                refine at_seq ?_
                refine at_block ?_
                refine at_seq ?_
                refine at_region ?_
                obtain ⟨x11, hn_x11, hF⟩ := bnd_some hF
                refine sv rfl (oc_addr cInt hn_x11 tabOK rfl rfl rfl rfl) rfl ?_
                refine sxk 2 tabOK rfl ?_
                refine aops_nil ?_
                refine at_seq ?_
                refine at_region ?_
                refine sxk 2 tabOK rfl ?_
                refine aops_nil ?_
                refine ct_ifn hF rfl (fun hc hF => ?_) (fun hc hF => ?_)
                · refine at_seq ?_
                  refine at_keep [] rfl ?_
                  refine at_region ?_
                  refine sxk 1 tabOK rfl ?_
                  refine aops_nil ?_
                  refine at_ret ?_
                  refine bk_r ?_
                  refine tk_r ?_
                  refine ll_r ?_
                  refine bk_r ?_
                  refine tk_r ?_
                  obtain rfl := Option.some.inj hF
                  refine ret_le rfl ?_
                  exact (vle_refl _)
                · refine at_skip ?_
                  refine bk_n ?_
                  refine at_region ?_
                  obtain ⟨hb, hF⟩ := chk_some hF
                  refine s_add tabOK rfl rfl rfl hb rfl ?_
                  refine sxk 1 tabOK rfl ?_
                  refine aops_nil ?_
                  exact arr_loop ⟨(x9 + 1), hF, (le_down (down_all (ee_cons rfl rfl rfl (ee_cons rfl rfl (cInt.ok_psl _ rfl) (ee_cons rfl rfl rfl (ee_cons rfl rfl rfl ee_nil)))) he_nil rfl rfl rfl rfl))⟩
              · refine at_exit ?_
                refine tk_x ?_
                refine ll_x ?_
                refine bk_hit ?_
                refine at_seq ?_
                refine at_region ?_
                refine sxk 3 tabOK rfl ?_
                refine aops_nil ?_
                refine at_ret ?_
                obtain rfl := Option.some.inj hF
                refine ret_le rfl ?_
                exact (vle_refl _)

theorem i_StackDepths_ok (m : PImage) (code : Int) (q : List Int × Bool) (hF : i_StackDepths m code = some q) : FC Try.prog 44 [.agg (cImage.row 0 m), .int .i64 code] [] 3 (fun x _ => x = .tup [.psl 1 1 (q.1.map (cInt.enc 1)), .bool q.2]) := by
  refine FC.of_le ?_
  refine fc_body tabOK Try.func44 rfl Try.ntmps44 rfl rfl rfl ?_
  unfold i_StackDepths at hF
  refine at_seq ?_
  refine at_region ?_
  refine sxk 3 tabOK rfl ?_
  refine aops_nil ?_
  refine at_seq ?_
  refine at_seq ?_
  refine at_region ?_
  refine sxk 3 tabOK rfl ?_
  refine ops_if (g := 9) hF rfl (fun hc hF => ?_) (fun hc hF => ?_)
  · refine sxk 6 tabOK rfl ?_
    refine aops_nil ?_
    refine at_true rfl ?_
    refine at_seq ?_
    refine at_keep [] rfl ?_
    refine at_region ?_
    refine sxk 2 tabOK rfl ?_
    refine aops_nil ?_
    refine at_ret ?_
    refine tk_r ?_
    obtain rfl := Option.some.inj hF
    refine ret_le rfl ?_
    exact (vle_tup (.cons (vle_nil _ _) (.cons (vle_refl _) .nil)))
  · refine sxk 3 tabOK rfl ?_
    refine sv rfl (oc_len cCode tabOK rfl rfl rfl) rfl ?_
    refine sxk 2 tabOK rfl ?_
    refine aops_nil ?_
    refine ct_if hF rfl (fun hc hF => ?_) (fun hc hF => ?_)
    · refine at_seq ?_
      refine at_keep [] rfl ?_
      refine at_region ?_
      refine sxk 2 tabOK rfl ?_
      refine aops_nil ?_
      refine at_ret ?_
      refine tk_r ?_
      obtain rfl := Option.some.inj hF
      refine ret_le rfl ?_
      exact (vle_tup (.cons (vle_nil _ _) (.cons (vle_refl _) .nil)))
    · refine at_skip ?_
      refine at_seq ?_
      refine at_seq ?_
      refine at_keep [1, 2] rfl ?_
      refine at_region ?_
      refine sxk 1 tabOK rfl ?_
      refine aops_nil ?_
      refine at_block ?_
      refine cl_loop (σ := Int) (fun k3 => ⟨[(1, .int .i64 code), (2, .ptr 3 1 0 0), (6, .int .i64 k3)], [(3, ⟨2, [cImage.row 0 m]⟩)], 4, 30, []⟩) (i_StackDepths_L1 m code) LF 0 hF (le_down (down_all (ee_cons rfl rfl rfl (ee_cons rfl rfl (Nat.le_of_ble_eq_true rfl) (ee_cons rfl rfl rfl ee_nil))) (he_cons rfl rfl rfl (row_one (cImage.row_ok _ rfl)) he_nil) rfl rfl rfl rfl)) ?_
      rintro lk_ k3 hF
      refine at_eq (s' := ⟨[(1, .int .i64 code), (2, .ptr 3 1 0 0), (6, .int .i64 k3)], [(3, ⟨2, [cImage.row 0 m]⟩)], 4, 30, []⟩) rfl ?_
      replace hF : i_StackDepths_L1b m code (itr (i_StackDepths_L1 m code) lk_) k3 = some q := hF
      unfold i_StackDepths_L1b at hF
      generalize itr (i_StackDepths_L1 m code) lk_ = go4 at hF ⊢
      refine at_seq ?_
      refine at_seq ?_
      refine at_region ?_
      refine sxk 3 tabOK rfl ?_
      refine aops_nil ?_
      refine ct_if hF rfl (fun hc hF => ?_) (fun hc hF => ?_)
      · refine at_skip ?_
        refine at_seq ?_
        refine at_block ?_
        refine at_seq ?_
        refine at_region ?_
        refine sxk 2 tabOK rfl ?_
        obtain ⟨x5, hx5, hF⟩ := bnd_some hF
        refine call_eq (i_codeOk_ok m k3 x5 hx5) rfl ((rlL_cons (cImage.rl_agg (l := 0) (l' := 0) _ m rfl) (rlL_cons (rfl) rlL_nil))) rfl rfl ?_
        refine sxk 1 tabOK rfl ?_
        refine aops_nil ?_
        refine ct_bn hF rfl (fun hc hF => ?_) (fun hc hF => ?_)
        · refine at_seq ?_
          refine at_keep [] rfl ?_
          refine at_region ?_
          refine sxk 2 tabOK rfl ?_
          refine aops_nil ?_
          refine at_ret ?_
          refine bk_r ?_
          refine tk_r ?_
          refine ll_r ?_
          refine bk_r ?_
          refine tk_r ?_
          obtain rfl := Option.some.inj hF
          refine ret_le rfl ?_
          exact (vle_tup (.cons (vle_nil _ _) (.cons (vle_refl _) .nil)))
        · refine at_skip ?_
          refine bk_n ?_
          refine at_keep [1, 2, 6] rfl ?_
          refine at_region ?_
          refine sxk 1 tabOK rfl ?_
          obtain ⟨hb, hF⟩ := chk_some hF
          refine s_add tabOK rfl rfl rfl hb rfl ?_
          refine sxk 1 tabOK rfl ?_
          refine aops_nil ?_
          exact arr_loop ⟨(k3 + 1), hF, (le_down (down_all (ee_cons rfl rfl rfl (ee_cons rfl rfl (Nat.le_of_ble_eq_true rfl) (ee_cons rfl rfl rfl ee_nil))) (he_cons rfl rfl rfl (row_one (cImage.row_ok _ rfl)) he_nil) rfl rfl rfl rfl))⟩
      · refine at_exit ?_
        refine tk_x ?_
        refine ll_x ?_
        refine bk_hit ?_
        refine at_seq ?_
        refine at_region ?_
        refine sxk 2 tabOK rfl ?_
        obtain ⟨x5, hx5, hF⟩ := bnd_some hF
        refine call_eq (i_depthsOf_ok m code x5 hx5) rfl ((rlL_cons (cImage.rl_agg (l := 0) (l' := 0) _ m rfl) (rlL_cons (rfl) rlL_nil))) (rl_tupL (rlL_cons (cInt.rl_psl (l := 1) (l' := 1) _ x5.1 rfl) (rlL_cons (rfl) rlL_nil))) rfl ?_
        refine sxk 4 tabOK rfl ?_
        refine aops_nil ?_
        refine at_ret ?_
        obtain rfl := Option.some.inj hF
        refine ret_le rfl ?_
        exact (vle_tup (.cons (vle_refl _) (.cons (vle_refl _) .nil)))

end Go.Proofs.Ytiecdekmiabmkaa
