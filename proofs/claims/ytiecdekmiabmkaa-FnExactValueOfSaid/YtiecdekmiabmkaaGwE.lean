/-
  Walks, made by wip/gen: E
-/
import Derived.Test.YtiecdekmiabmkaaGpE
import Derived.Test.YtiecdekmiabmkaaGwD
set_option linter.unusedVariables false
set_option linter.unusedSimpArgs false
namespace Go.Proofs.Ytiecdekmiabmkaa
open Go.Abs
attribute [local irreducible] AT AOps FC DR DN
set_option maxRecDepth 10000
set_option maxHeartbeats 4000000

theorem s_l8Quote_bok (s_l8Quote : PDat → List PPair → Option (PVal × List PPair)) (h_s_l8Quote : ∀ (d : PDat) (pairs : List PPair) (q : PVal × List PPair), s_l8Quote d pairs = some q → FC Try.prog 72 [.agg (cDat.row 0 d), .hsl 0 0 pairs.length] [(0, ⟨6, pairs.map (cPair.enc 0)⟩)] 3 (fun x h2 => x = .tup [.agg (cVal.row 1 q.1), .hsl 0 0 q.2.length] ∧ hget h2 0 = some ⟨6, q.2.map (cPair.enc 0)⟩)) (d : PDat) (pairs : List PPair) (q : PVal × List PPair) (hF : s_l8Quote_b s_l8Quote d pairs = some q) : FC Try.prog 72 [.agg (cDat.row 0 d), .hsl 0 0 pairs.length] [(0, ⟨6, pairs.map (cPair.enc 0)⟩)] 3 (fun x h2 => x = .tup [.agg (cVal.row 1 q.1), .hsl 0 0 q.2.length] ∧ hget h2 0 = some ⟨6, q.2.map (cPair.enc 0)⟩) := by
  refine FC.of_le_lent ?_
  refine fc_body tabOK Try.func72 rfl Try.ntmps72 rfl rfl rfl ?_
  unfold s_l8Quote_b at hF
  refine at_seq ?_
  refine at_region ?_
  refine sxk 3 tabOK rfl ?_
  refine aops_nil ?_
  refine at_seq ?_
  refine at_seq ?_
  refine at_region ?_
  refine sxk 2 tabOK rfl ?_
  refine aops_nil ?_
  refine at_block ?_
  refine at_seq ?_
  refine at_region ?_
  refine sxk 2 tabOK rfl ?_
  refine aops_nil ?_
  refine ct_if hF rfl (fun hc hF => ?_) (fun hc hF => ?_)
  · refine at_seq ?_
    refine at_region ?_
    refine sxk 2 tabOK rfl ?_
    refine sv rfl (ov_build tabOK rfl rfl) rfl ?_
    refine sxk 3 tabOK rfl ?_
    refine aops_nil ?_
    refine at_ret ?_
    refine bk_r ?_
    refine tk_r ?_
    obtain rfl := Option.some.inj hF
    exact ret_lent rfl ((vle_tup (.cons (vle_refl _) (.cons (vle_refl _) .nil)))) rfl
  · refine at_seq ?_
    refine at_region ?_
    refine sxk 2 tabOK rfl ?_
    refine aops_nil ?_
    refine ct_if hF rfl (fun hc hF => ?_) (fun hc hF => ?_)
    · refine at_seq ?_
      refine at_keep [1, 2, 4] rfl ?_
      refine at_region ?_
      refine sxk 2 tabOK rfl ?_
      refine sv rfl (ov_build tabOK rfl rfl) rfl ?_
      refine sxk 3 tabOK rfl ?_
      refine aops_nil ?_
      refine at_ret ?_
      refine bk_r ?_
      refine tk_r ?_
      obtain rfl := Option.some.inj hF
      exact ret_lent rfl ((vle_tup (.cons (vle_refl _) (.cons (vle_refl _) .nil)))) rfl
    · refine at_seq ?_
      refine at_keep [1, 2, 4, 10] rfl ?_
      refine at_region ?_
      refine sxk 2 tabOK rfl ?_
      refine aops_nil ?_
      refine ct_if hF rfl (fun hc hF => ?_) (fun hc hF => ?_)
      · refine at_seq ?_
        refine at_region ?_
        refine sxk 2 tabOK rfl ?_
        refine sv rfl (ov_build tabOK rfl rfl) rfl ?_
        refine sxk 3 tabOK rfl ?_
        refine aops_nil ?_
        refine at_ret ?_
        refine bk_r ?_
        refine tk_r ?_
        obtain rfl := Option.some.inj hF
        exact ret_lent rfl ((vle_tup (.cons (vle_refl _) (.cons (vle_refl _) .nil)))) rfl
      · refine at_seq ?_
        refine at_region ?_
        refine sxk 2 tabOK rfl ?_
        refine aops_nil ?_
        refine ct_if hF rfl (fun hc hF => ?_) (fun hc hF => ?_)
        · refine at_seq ?_
          refine at_region ?_
          refine sxk 2 tabOK rfl ?_
          refine sv rfl (ov_build tabOK rfl rfl) rfl ?_
          refine sxk 3 tabOK rfl ?_
          refine aops_nil ?_
          refine at_ret ?_
          refine bk_r ?_
          refine tk_r ?_
          obtain rfl := Option.some.inj hF
          exact ret_lent rfl ((vle_tup (.cons (vle_refl _) (.cons (vle_refl _) .nil)))) rfl
        · refine at_skip ?_
          refine bk_n ?_
          refine at_seq ?_
          refine at_region ?_
          refine sv rfl (ov_build tabOK rfl rfl) rfl ?_
          refine sxk 2 tabOK rfl ?_
          refine aops_nil ?_
          refine at_seq ?_
          refine at_seq ?_
          refine at_region ?_
          refine sxk 2 tabOK rfl ?_
          refine sv rfl (oc_len cDat tabOK rfl rfl rfl) rfl ?_
          obtain ⟨hb, hF⟩ := chk_some hF
          refine s_sub tabOK rfl rfl rfl hb rfl ?_
          refine sxk 1 tabOK rfl ?_
          refine aops_nil ?_
          refine at_block ?_
          refine cl_loop (σ := Int × List PPair × PVal) (fun v => match v with | (i4, pairs5, tail6) => ⟨[(1, .hsl 0 0 pairs5.length), (2, .ptr 3 1 0 0), (4, .ptr 4 1 0 0), (6, .ptr 5 1 0 0), (7, .int .i64 i4)], [(0, ⟨6, pairs5.map (cPair.enc 0)⟩), (3, ⟨4, [cDat.row 0 d]⟩), (4, ⟨3, [[.int .i64 0, .int .i64 0, .str ([] : List UInt8)]]⟩), (5, ⟨3, [cVal.row 0 tail6]⟩)], 6, 67, []⟩) (s_l8Quote_L1 s_l8Quote d) LF (((d.items.length : Int) - 1), pairs, (PVal.mk 1 0 ([] : List UInt8))) hF (le_down (down_all (ee_cons rfl rfl (Nat.le_of_ble_eq_true rfl) (ee_cons rfl rfl (Nat.le_of_ble_eq_true rfl) (ee_cons rfl rfl (Nat.le_of_ble_eq_true rfl) (ee_cons rfl rfl (Nat.le_of_ble_eq_true rfl) (ee_cons rfl rfl rfl ee_nil))))) (he_cons rfl rfl rfl (cPair.rows_ok _ rfl) (he_cons rfl rfl rfl (row_one (cDat.row_ok _ rfl)) (he_cons rfl rfl rfl (row_one ⟨rfl, rfl, rfl, trivial⟩) (he_cons rfl rfl rfl (row_one (cVal.row_ok _ rfl)) he_nil)))) rfl rfl rfl rfl)) ?_
          rintro lk_ ⟨i4, pairs5, tail6⟩ hF
          refine at_eq (s' := ⟨[(1, .hsl 0 0 pairs5.length), (2, .ptr 3 1 0 0), (4, .ptr 4 1 0 0), (6, .ptr 5 1 0 0), (7, .int .i64 i4)], [(0, ⟨6, pairs5.map (cPair.enc 0)⟩), (3, ⟨4, [cDat.row 0 d]⟩), (4, ⟨3, [[.int .i64 0, .int .i64 0, .str ([] : List UInt8)]]⟩), (5, ⟨3, [cVal.row 0 tail6]⟩)], 6, 67, []⟩) rfl ?_
          replace hF : s_l8Quote_L1b s_l8Quote d (itr (s_l8Quote_L1 s_l8Quote d) lk_) i4 pairs5 tail6 = some q := hF
          unfold s_l8Quote_L1b at hF
          generalize itr (s_l8Quote_L1 s_l8Quote d) lk_ = go7 at hF ⊢
          refine at_seq ?_
          refine at_seq ?_
          refine at_region ?_
          refine sxk 2 tabOK rfl ?_
          refine aops_nil ?_
          refine ct_if hF rfl (fun hc hF => ?_) (fun hc hF => ?_)
          · refine at_skip ?_
            refine at_seq ?_
            refine at_block ?_
            refine at_seq ?_
            refine at_region ?_
            refine sv rfl (ov_build tabOK rfl rfl) rfl ?_
            refine sxk 2 tabOK rfl ?_
            refine aops_nil ?_
            refine at_seq ?_
            refine at_region ?_
            refine sxk 3 tabOK rfl ?_
            obtain ⟨x8, hn_x8, hF⟩ := bnd_some hF
            refine sv rfl (oc_addr cDat hn_x8 tabOK rfl rfl rfl rfl) rfl ?_
            refine sxk 2 tabOK rfl ?_
            obtain ⟨x9, hx9, hF⟩ := bnd_some hF
            refine call_io 0 (h_s_l8Quote x8 pairs5 x9 hx9) rfl (rnL_cons (rn_of_rl _ (cDat.rl_agg (l := 0) (l' := 0) _ x8 rfl)) (rnL_cons rfl rnL_nil)) rfl (Cd.rnR cPair _ pairs5 rfl) (rn_tup (rnL_cons (rn_of_rl _ (cVal.rl_agg (l := 1) (l' := 1) _ x9.1 rfl)) (rnL_cons rfl rnL_nil))) (Cd.rnR cPair _ x9.2 rfl) rfl ?_
            refine sxk 5 tabOK rfl ?_
            refine aops_nil ?_
            refine at_seq ?_
            refine at_keep [1, 2, 4, 6, 7, 8] rfl ?_
            refine at_region ?_
            refine sxk 3 tabOK rfl ?_
            refine sv rfl (ov_build tabOK rfl rfl) rfl ?_
            refine sc_slit cPair (l := 0) ([(PPair.mk x9.1 tail6)] : List PPair) tabOK rfl rfl rfl rfl rfl rfl rfl ?_
            obtain ⟨hb, hF⟩ := chk_some hF
            refine sc_append cPair (l := 0) (xs := x9.2) (ys := ([(PPair.mk x9.1 tail6)] : List PPair)) hb rfl tabOK rfl rfl rfl rfl rfl rfl rfl (srcC_hsl cPair rfl rfl rfl) rfl ?_
            refine sxk 1 tabOK rfl ?_
            refine aops_nil ?_
            refine at_keep [1, 2, 4, 6, 7] rfl ?_
            refine at_region ?_
            refine sxk 1 tabOK rfl ?_
            refine sv rfl (oc_hlen cPair tabOK rfl rfl rfl) rfl ?_
            obtain ⟨hb, hF⟩ := chk_some hF
            refine s_sub tabOK rfl rfl rfl hb rfl ?_
            refine sv rfl (ov_build tabOK rfl rfl) rfl ?_
            refine sxk 1 tabOK rfl ?_
            refine aops_nil ?_
            refine bk_n ?_
            refine at_region ?_
            refine sxk 1 tabOK rfl ?_
            obtain ⟨hb, hF⟩ := chk_some hF
            refine s_sub tabOK rfl rfl rfl hb rfl ?_
            refine sxk 1 tabOK rfl ?_
            refine aops_nil ?_
            exact arr_loop ⟨((i4 - 1), (x9.2 ++ ([(PPair.mk x9.1 tail6)] : List PPair)), (PVal.mk 7 (((x9.2 ++ ([(PPair.mk x9.1 tail6)] : List PPair)).length : Int) - 1) ([] : List UInt8))), hF, (le_down (down_all (ee_cons rfl rfl (Nat.le_of_ble_eq_true rfl) (ee_cons rfl rfl (Nat.le_of_ble_eq_true rfl) (ee_cons rfl rfl (Nat.le_of_ble_eq_true rfl) (ee_cons rfl rfl (Nat.le_of_ble_eq_true rfl) (ee_cons rfl rfl rfl ee_nil))))) (he_cons rfl rfl rfl (cPair.rows_ok _ rfl) (he_cons rfl rfl rfl (row_one (cDat.row_ok _ rfl)) (he_cons rfl rfl rfl (row_one ⟨rfl, rfl, rfl, trivial⟩) (he_cons rfl rfl rfl (row_one (cVal.row_ok _ rfl)) he_nil)))) rfl rfl rfl rfl))⟩
          · refine at_exit ?_
            refine tk_x ?_
            refine ll_x ?_
            refine bk_hit ?_
            refine at_seq ?_
            refine at_region ?_
            refine sxk 4 tabOK rfl ?_
            refine aops_nil ?_
            refine at_ret ?_
            obtain rfl := Option.some.inj hF
            exact ret_lent rfl ((vle_tup (.cons (vle_refl _) (.cons (vle_refl _) .nil)))) rfl

theorem s_l8Quote_all (n : Nat) : (∀ (d : PDat) (pairs : List PPair) (q : PVal × List PPair), s_l8Quote n d pairs = some q → FC Try.prog 72 [.agg (cDat.row 0 d), .hsl 0 0 pairs.length] [(0, ⟨6, pairs.map (cPair.enc 0)⟩)] 3 (fun x h2 => x = .tup [.agg (cVal.row 1 q.1), .hsl 0 0 q.2.length] ∧ hget h2 0 = some ⟨6, q.2.map (cPair.enc 0)⟩)) := by
  induction n with
  | zero => exact fun _ _ q h => by cases h
  | succ n ih => exact fun d pairs q h => s_l8Quote_bok (s_l8Quote n) ih d pairs q h

theorem s_l8Quote_ok (n : Nat) (d : PDat) (pairs : List PPair) (q : PVal × List PPair) (hF : s_l8Quote n d pairs = some q) : FC Try.prog 72 [.agg (cDat.row 0 d), .hsl 0 0 pairs.length] [(0, ⟨6, pairs.map (cPair.enc 0)⟩)] 3 (fun x h2 => x = .tup [.agg (cVal.row 1 q.1), .hsl 0 0 q.2.length] ∧ hget h2 0 = some ⟨6, q.2.map (cPair.enc 0)⟩) := (s_l8Quote_all n) d pairs q hF

theorem s_ValueOf_ok (d : PDat) (pairs : List PPair) (q : PVal × List PPair × Bool) (hF : s_ValueOf d pairs = some q) : FC Try.prog 34 [.agg (cDat.row 0 d), .psl 0 6 (pairs.map (cPair.enc 0))] [] 3 (fun x _ => x = .tup [.agg (cVal.row 1 q.1), .psl 1 6 (q.2.1.map (cPair.enc 1)), .bool q.2.2]) := by
  refine FC.of_le ?_
  refine fc_body tabOK Try.func34 rfl Try.ntmps34 rfl rfl rfl ?_
  unfold s_ValueOf at hF
  refine at_seq ?_
  refine at_region ?_
  refine sxk 4 tabOK rfl ?_
  refine aops_nil ?_
  refine at_seq ?_
  refine at_region ?_
  refine sc_slit cPair (l := 0) ([] : List PPair) tabOK rfl rfl rfl rfl rfl rfl rfl ?_
  refine sxk 1 tabOK rfl ?_
  obtain ⟨hb, hF⟩ := chk_some hF
  refine sc_append cPair (l := 0) (xs := ([] : List PPair)) (ys := pairs) hb rfl tabOK rfl rfl rfl rfl rfl rfl rfl (srcC_psl cPair rfl rfl rfl) rfl ?_
  refine sxk 1 tabOK rfl ?_
  refine aops_nil ?_
  refine at_seq ?_
  refine at_seq ?_
  refine at_region ?_
  refine sxk 1 tabOK rfl ?_
  obtain ⟨x3, hx3, hF⟩ := bnd_some hF
  refine call_eq (s_IsDatum_ok d x3 hx3) rfl ((rlL_cons (cDat.rl_agg (l := 0) (l' := 0) _ d rfl) rlL_nil)) rfl rfl ?_
  refine sxk 2 tabOK rfl ?_
  refine ops_ifnb (g := 16) hF rfl (fun hc hF => ?_) (fun hc hF => ?_)
  · refine sxk 12 tabOK rfl ?_
    refine aops_nil ?_
    refine at_true rfl ?_
    refine at_seq ?_
    refine at_keep [4, 7] rfl ?_
    refine at_region ?_
    refine sv rfl (ov_build tabOK rfl rfl) rfl ?_
    refine sxk 4 tabOK rfl ?_
    refine aops_nil ?_
    refine at_le (le_freeze 5 rfl rfl (by simp) rfl) ?_
    refine at_ret ?_
    refine tk_r ?_
    obtain rfl := Option.some.inj hF
    refine ret_le rfl ?_
    exact (vle_tup (.cons (vle_refl _) (.cons (vle_refl _) (.cons (vle_refl _) .nil))))
  · refine sxk 1 tabOK rfl ?_
    obtain ⟨x4, hx4, hF⟩ := bnd_some hF
    refine call_eq (s_ArePairs_ok pairs x4 hx4) rfl ((rlL_cons (cPair.rl_psl (l := 0) (l' := 0) _ pairs rfl) rlL_nil)) rfl rfl ?_
    refine sxk 3 tabOK rfl ?_
    refine ops_ifnb (g := 21) hF rfl (fun hc hF => ?_) (fun hc hF => ?_)
    · refine sxk 7 tabOK rfl ?_
      refine aops_nil ?_
      refine at_true rfl ?_
      refine at_seq ?_
      refine at_keep [4, 7] rfl ?_
      refine at_region ?_
      refine sv rfl (ov_build tabOK rfl rfl) rfl ?_
      refine sxk 4 tabOK rfl ?_
      refine aops_nil ?_
      refine at_le (le_freeze 5 rfl rfl (by simp) rfl) ?_
      refine at_ret ?_
      refine tk_r ?_
      obtain rfl := Option.some.inj hF
      refine ret_le rfl ?_
      exact (vle_tup (.cons (vle_refl _) (.cons (vle_refl _) (.cons (vle_refl _) .nil))))
    · refine sxk 1 tabOK rfl ?_
      refine sv rfl (oc_len cPair tabOK rfl rfl rfl) rfl ?_
      refine sxk 1 tabOK rfl ?_
      obtain ⟨x5, hx5, hF⟩ := bnd_some hF
      refine call_eq (s_l8Cells_ok RF d x5 hx5) rfl ((rlL_cons (cDat.rl_agg (l := 0) (l' := 0) _ d rfl) rlL_nil)) rfl rfl ?_
      obtain ⟨hb, hF⟩ := chk_some hF
      refine s_add tabOK rfl rfl rfl hb rfl ?_
      refine sxk 2 tabOK rfl ?_
      refine aops_nil ?_
      refine ct_if hF rfl (fun hc hF => ?_) (fun hc hF => ?_)
      · refine at_seq ?_
        refine at_keep [4, 7] rfl ?_
        refine at_region ?_
        refine sv rfl (ov_build tabOK rfl rfl) rfl ?_
        refine sxk 4 tabOK rfl ?_
        refine aops_nil ?_
        refine at_le (le_freeze 5 rfl rfl (by simp) rfl) ?_
        refine at_ret ?_
        refine tk_r ?_
        obtain rfl := Option.some.inj hF
        refine ret_le rfl ?_
        exact (vle_tup (.cons (vle_refl _) (.cons (vle_refl _) (.cons (vle_refl _) .nil))))
      · refine at_skip ?_
        refine at_seq ?_
        refine at_keep [2, 4, 7] rfl ?_
        refine at_region ?_
        refine sxk 2 tabOK rfl ?_
        obtain ⟨x6, hx6, hF⟩ := bnd_some hF
        refine call_io 5 (s_l8Quote_ok RF d (([] : List PPair) ++ pairs) x6 hx6) rfl (rnL_cons (rn_of_rl _ (cDat.rl_agg (l := 0) (l' := 0) _ d rfl)) (rnL_cons rfl rnL_nil)) rfl (Cd.rnR cPair _ (([] : List PPair) ++ pairs) rfl) (rn_tup (rnL_cons (rn_of_rl _ (cVal.rl_agg (l := 1) (l' := 1) _ x6.1 rfl)) (rnL_cons rfl rnL_nil))) (Cd.rnR cPair _ x6.2 rfl) rfl ?_
        refine sxk 6 tabOK rfl ?_
        refine aops_nil ?_
        refine at_seq ?_
        refine at_keep [4, 8, 9] rfl ?_
        refine at_region ?_
        refine sxk 5 tabOK rfl ?_
        refine aops_nil ?_
        refine at_le (le_freeze 5 rfl rfl (by simp) rfl) ?_
        refine at_ret ?_
        obtain rfl := Option.some.inj hF
        refine ret_le rfl ?_
        exact (vle_tup (.cons (vle_refl _) (.cons (vle_refl _) (.cons (vle_refl _) .nil))))

theorem i_valueOf_bok (i_valueOf : PDat → List PPair → Option (PVal × List PPair)) (h_i_valueOf : ∀ (d : PDat) (pairs : List PPair) (q : PVal × List PPair), i_valueOf d pairs = some q → FC Try.prog 76 [.agg (cDat.row 0 d), .hsl 0 0 pairs.length] [(0, ⟨6, pairs.map (cPair.enc 0)⟩)] 3 (fun x h2 => x = .tup [.agg (cVal.row 1 q.1), .hsl 0 0 q.2.length] ∧ hget h2 0 = some ⟨6, q.2.map (cPair.enc 0)⟩)) (d : PDat) (pairs : List PPair) (q : PVal × List PPair) (hF : i_valueOf_b i_valueOf d pairs = some q) : FC Try.prog 76 [.agg (cDat.row 0 d), .hsl 0 0 pairs.length] [(0, ⟨6, pairs.map (cPair.enc 0)⟩)] 3 (fun x h2 => x = .tup [.agg (cVal.row 1 q.1), .hsl 0 0 q.2.length] ∧ hget h2 0 = some ⟨6, q.2.map (cPair.enc 0)⟩) := by
  refine FC.of_le_lent ?_
  refine fc_body tabOK Try.func76 rfl Try.ntmps76 rfl rfl rfl ?_
  unfold i_valueOf_b at hF
  refine at_seq ?_
  refine at_region ?_
  refine sxk 3 tabOK rfl ?_
  refine aops_nil ?_
  refine at_seq ?_
  refine at_seq ?_
  refine at_region ?_
  refine sxk 2 tabOK rfl ?_
  refine aops_nil ?_
  refine at_block ?_
  refine at_seq ?_
  refine at_region ?_
  refine sxk 2 tabOK rfl ?_
  refine aops_nil ?_
  refine ct_if hF rfl (fun hc hF => ?_) (fun hc hF => ?_)
  · refine at_seq ?_
    refine at_region ?_
    refine sxk 2 tabOK rfl ?_
    refine sv rfl (ov_build tabOK rfl rfl) rfl ?_
    refine sxk 3 tabOK rfl ?_
    refine aops_nil ?_
    refine at_ret ?_
    refine bk_r ?_
    refine tk_r ?_
    obtain rfl := Option.some.inj hF
    exact ret_lent rfl ((vle_tup (.cons (vle_refl _) (.cons (vle_refl _) .nil)))) rfl
  · refine at_seq ?_
    refine at_region ?_
    refine sxk 2 tabOK rfl ?_
    refine aops_nil ?_
    refine ct_if hF rfl (fun hc hF => ?_) (fun hc hF => ?_)
    · refine at_seq ?_
      refine at_keep [1, 2, 4] rfl ?_
      refine at_region ?_
      refine sxk 2 tabOK rfl ?_
      refine sv rfl (ov_build tabOK rfl rfl) rfl ?_
      refine sxk 3 tabOK rfl ?_
      refine aops_nil ?_
      refine at_ret ?_
      refine bk_r ?_
      refine tk_r ?_
      obtain rfl := Option.some.inj hF
      exact ret_lent rfl ((vle_tup (.cons (vle_refl _) (.cons (vle_refl _) .nil)))) rfl
    · refine at_seq ?_
      refine at_keep [1, 2, 4, 10] rfl ?_
      refine at_region ?_
      refine sxk 2 tabOK rfl ?_
      refine aops_nil ?_
      refine ct_if hF rfl (fun hc hF => ?_) (fun hc hF => ?_)
      · refine at_seq ?_
        refine at_region ?_
        refine sxk 2 tabOK rfl ?_
        refine sv rfl (ov_build tabOK rfl rfl) rfl ?_
        refine sxk 3 tabOK rfl ?_
        refine aops_nil ?_
        refine at_ret ?_
        refine bk_r ?_
        refine tk_r ?_
        obtain rfl := Option.some.inj hF
        exact ret_lent rfl ((vle_tup (.cons (vle_refl _) (.cons (vle_refl _) .nil)))) rfl
      · refine at_seq ?_
        refine at_region ?_
        refine sxk 2 tabOK rfl ?_
        refine aops_nil ?_
        refine ct_if hF rfl (fun hc hF => ?_) (fun hc hF => ?_)
        · refine at_seq ?_
          refine at_region ?_
          refine sxk 2 tabOK rfl ?_
          refine sv rfl (ov_build tabOK rfl rfl) rfl ?_
          refine sxk 3 tabOK rfl ?_
          refine aops_nil ?_
          refine at_ret ?_
          refine bk_r ?_
          refine tk_r ?_
          obtain rfl := Option.some.inj hF
          exact ret_lent rfl ((vle_tup (.cons (vle_refl _) (.cons (vle_refl _) .nil)))) rfl
        · refine at_skip ?_
          refine bk_n ?_
          refine at_seq ?_
          refine at_region ?_
          refine sv rfl (ov_build tabOK rfl rfl) rfl ?_
          refine sxk 2 tabOK rfl ?_
          refine aops_nil ?_
          refine at_seq ?_
          refine at_seq ?_
          refine at_region ?_
          refine sxk 2 tabOK rfl ?_
          refine sv rfl (oc_len cDat tabOK rfl rfl rfl) rfl ?_
          obtain ⟨hb, hF⟩ := chk_some hF
          refine s_sub tabOK rfl rfl rfl hb rfl ?_
          refine sxk 1 tabOK rfl ?_
          refine aops_nil ?_
          refine at_block ?_
          refine cl_loop (σ := Int × List PPair × PVal) (fun v => match v with | (i4, pairs5, list6) => ⟨[(1, .hsl 0 0 pairs5.length), (2, .ptr 3 1 0 0), (4, .ptr 4 1 0 0), (6, .ptr 5 1 0 0), (7, .int .i64 i4)], [(0, ⟨6, pairs5.map (cPair.enc 0)⟩), (3, ⟨4, [cDat.row 0 d]⟩), (4, ⟨3, [[.int .i64 0, .int .i64 0, .str ([] : List UInt8)]]⟩), (5, ⟨3, [cVal.row 0 list6]⟩)], 6, 66, []⟩) (i_valueOf_L1 i_valueOf d) LF (((d.items.length : Int) - 1), pairs, (PVal.mk 1 0 ([] : List UInt8))) hF (le_down (down_all (ee_cons rfl rfl (Nat.le_of_ble_eq_true rfl) (ee_cons rfl rfl (Nat.le_of_ble_eq_true rfl) (ee_cons rfl rfl (Nat.le_of_ble_eq_true rfl) (ee_cons rfl rfl (Nat.le_of_ble_eq_true rfl) (ee_cons rfl rfl rfl ee_nil))))) (he_cons rfl rfl rfl (cPair.rows_ok _ rfl) (he_cons rfl rfl rfl (row_one (cDat.row_ok _ rfl)) (he_cons rfl rfl rfl (row_one ⟨rfl, rfl, rfl, trivial⟩) (he_cons rfl rfl rfl (row_one (cVal.row_ok _ rfl)) he_nil)))) rfl rfl rfl rfl)) ?_
          rintro lk_ ⟨i4, pairs5, list6⟩ hF
          refine at_eq (s' := ⟨[(1, .hsl 0 0 pairs5.length), (2, .ptr 3 1 0 0), (4, .ptr 4 1 0 0), (6, .ptr 5 1 0 0), (7, .int .i64 i4)], [(0, ⟨6, pairs5.map (cPair.enc 0)⟩), (3, ⟨4, [cDat.row 0 d]⟩), (4, ⟨3, [[.int .i64 0, .int .i64 0, .str ([] : List UInt8)]]⟩), (5, ⟨3, [cVal.row 0 list6]⟩)], 6, 66, []⟩) rfl ?_
          replace hF : i_valueOf_L1b i_valueOf d (itr (i_valueOf_L1 i_valueOf d) lk_) i4 pairs5 list6 = some q := hF
          unfold i_valueOf_L1b at hF
          generalize itr (i_valueOf_L1 i_valueOf d) lk_ = go7 at hF ⊢
          refine at_seq ?_
          refine at_seq ?_
          refine at_region ?_
          refine sxk 2 tabOK rfl ?_
          refine aops_nil ?_
          refine ct_if hF rfl (fun hc hF => ?_) (fun hc hF => ?_)
          · refine at_skip ?_
            refine at_seq ?_
            refine at_block ?_
            refine at_seq ?_
            refine at_region ?_
            refine sxk 1 tabOK rfl ?_
            refine aops_nil ?_
            refine at_seq ?_
            refine at_region ?_
            refine sxk 3 tabOK rfl ?_
            obtain ⟨x8, hn_x8, hF⟩ := bnd_some hF
            refine sv rfl (oc_addr cDat hn_x8 tabOK rfl rfl rfl rfl) rfl ?_
            refine sxk 2 tabOK rfl ?_
            obtain ⟨x9, hx9, hF⟩ := bnd_some hF
            refine call_io 0 (h_i_valueOf x8 pairs5 x9 hx9) rfl (rnL_cons (rn_of_rl _ (cDat.rl_agg (l := 0) (l' := 0) _ x8 rfl)) (rnL_cons rfl rnL_nil)) rfl (Cd.rnR cPair _ pairs5 rfl) (rn_tup (rnL_cons (rn_of_rl _ (cVal.rl_agg (l := 1) (l' := 1) _ x9.1 rfl)) (rnL_cons rfl rnL_nil))) (Cd.rnR cPair _ x9.2 rfl) rfl ?_
            refine sxk 5 tabOK rfl ?_
            refine aops_nil ?_
            refine at_seq ?_
            refine at_keep [1, 2, 4, 6, 7, 8] rfl ?_
            refine at_region ?_
            refine sxk 3 tabOK rfl ?_
            refine sv rfl (ov_build tabOK rfl rfl) rfl ?_
            refine sc_slit cPair (l := 0) ([(PPair.mk x9.1 list6)] : List PPair) tabOK rfl rfl rfl rfl rfl rfl rfl ?_
            obtain ⟨hb, hF⟩ := chk_some hF
            refine sc_append cPair (l := 0) (xs := x9.2) (ys := ([(PPair.mk x9.1 list6)] : List PPair)) hb rfl tabOK rfl rfl rfl rfl rfl rfl rfl (srcC_hsl cPair rfl rfl rfl) rfl ?_
            refine sxk 1 tabOK rfl ?_
            refine aops_nil ?_
            refine at_keep [1, 2, 4, 6, 7] rfl ?_
            refine at_region ?_
            refine sxk 1 tabOK rfl ?_
            refine sv rfl (oc_hlen cPair tabOK rfl rfl rfl) rfl ?_
            obtain ⟨hb, hF⟩ := chk_some hF
            refine s_sub tabOK rfl rfl rfl hb rfl ?_
            refine sv rfl (ov_build tabOK rfl rfl) rfl ?_
            refine sxk 1 tabOK rfl ?_
            refine aops_nil ?_
            refine bk_n ?_
            refine at_region ?_
            refine sxk 1 tabOK rfl ?_
            obtain ⟨hb, hF⟩ := chk_some hF
            refine s_sub tabOK rfl rfl rfl hb rfl ?_
            refine sxk 1 tabOK rfl ?_
            refine aops_nil ?_
            exact arr_loop ⟨((i4 - 1), (x9.2 ++ ([(PPair.mk x9.1 list6)] : List PPair)), (PVal.mk 7 (((x9.2 ++ ([(PPair.mk x9.1 list6)] : List PPair)).length : Int) - 1) ([] : List UInt8))), hF, (le_down (down_all (ee_cons rfl rfl (Nat.le_of_ble_eq_true rfl) (ee_cons rfl rfl (Nat.le_of_ble_eq_true rfl) (ee_cons rfl rfl (Nat.le_of_ble_eq_true rfl) (ee_cons rfl rfl (Nat.le_of_ble_eq_true rfl) (ee_cons rfl rfl rfl ee_nil))))) (he_cons rfl rfl rfl (cPair.rows_ok _ rfl) (he_cons rfl rfl rfl (row_one (cDat.row_ok _ rfl)) (he_cons rfl rfl rfl (row_one ⟨rfl, rfl, rfl, trivial⟩) (he_cons rfl rfl rfl (row_one (cVal.row_ok _ rfl)) he_nil)))) rfl rfl rfl rfl))⟩
          · refine at_exit ?_
            refine tk_x ?_
            refine ll_x ?_
            refine bk_hit ?_
            refine at_seq ?_
            refine at_region ?_
            refine sxk 4 tabOK rfl ?_
            refine aops_nil ?_
            refine at_ret ?_
            obtain rfl := Option.some.inj hF
            exact ret_lent rfl ((vle_tup (.cons (vle_refl _) (.cons (vle_refl _) .nil)))) rfl

theorem i_valueOf_all (n : Nat) : (∀ (d : PDat) (pairs : List PPair) (q : PVal × List PPair), i_valueOf n d pairs = some q → FC Try.prog 76 [.agg (cDat.row 0 d), .hsl 0 0 pairs.length] [(0, ⟨6, pairs.map (cPair.enc 0)⟩)] 3 (fun x h2 => x = .tup [.agg (cVal.row 1 q.1), .hsl 0 0 q.2.length] ∧ hget h2 0 = some ⟨6, q.2.map (cPair.enc 0)⟩)) := by
  induction n with
  | zero => exact fun _ _ q h => by cases h
  | succ n ih => exact fun d pairs q h => i_valueOf_bok (i_valueOf n) ih d pairs q h

theorem i_valueOf_ok (n : Nat) (d : PDat) (pairs : List PPair) (q : PVal × List PPair) (hF : i_valueOf n d pairs = some q) : FC Try.prog 76 [.agg (cDat.row 0 d), .hsl 0 0 pairs.length] [(0, ⟨6, pairs.map (cPair.enc 0)⟩)] 3 (fun x h2 => x = .tup [.agg (cVal.row 1 q.1), .hsl 0 0 q.2.length] ∧ hget h2 0 = some ⟨6, q.2.map (cPair.enc 0)⟩) := (i_valueOf_all n) d pairs q hF

theorem i_ValueOf_ok (d : PDat) (pairs : List PPair) (q : PVal × List PPair × Bool) (hF : i_ValueOf d pairs = some q) : FC Try.prog 36 [.agg (cDat.row 0 d), .psl 0 6 (pairs.map (cPair.enc 0))] [] 3 (fun x _ => x = .tup [.agg (cVal.row 1 q.1), .psl 1 6 (q.2.1.map (cPair.enc 1)), .bool q.2.2]) := by
  refine FC.of_le ?_
  refine fc_body tabOK Try.func36 rfl Try.ntmps36 rfl rfl rfl ?_
  unfold i_ValueOf at hF
  refine at_seq ?_
  refine at_region ?_
  refine sxk 4 tabOK rfl ?_
  refine aops_nil ?_
  refine at_seq ?_
  refine at_region ?_
  refine sxk 1 tabOK rfl ?_
  obtain ⟨hb, hF⟩ := chk_some hF
  refine sc_append0 cPair (l := 0) (ys := pairs) hb rfl tabOK rfl rfl rfl rfl rfl rfl (srcC_psl cPair rfl rfl rfl) rfl ?_
  refine sxk 1 tabOK rfl ?_
  refine aops_nil ?_
  refine at_seq ?_
  refine at_seq ?_
  refine at_region ?_
  refine sxk 1 tabOK rfl ?_
  obtain ⟨x3, hx3, hF⟩ := bnd_some hF
  refine call_eq (i_IsDatum_ok d x3 hx3) rfl ((rlL_cons (cDat.rl_agg (l := 0) (l' := 0) _ d rfl) rlL_nil)) rfl rfl ?_
  refine sxk 2 tabOK rfl ?_
  refine ops_ifnb (g := 14) hF rfl (fun hc hF => ?_) (fun hc hF => ?_)
  · refine sxk 12 tabOK rfl ?_
    refine aops_nil ?_
    refine at_true rfl ?_
    refine at_seq ?_
    refine at_keep [4, 7] rfl ?_
    refine at_region ?_
    refine sv rfl (ov_build tabOK rfl rfl) rfl ?_
    refine sxk 4 tabOK rfl ?_
    refine aops_nil ?_
    refine at_le (le_freeze 5 rfl rfl (by simp) rfl) ?_
    refine at_ret ?_
    refine tk_r ?_
    obtain rfl := Option.some.inj hF
    refine ret_le rfl ?_
    exact (vle_tup (.cons (vle_refl _) (.cons (vle_refl _) (.cons (vle_refl _) .nil))))
  · refine sxk 1 tabOK rfl ?_
    obtain ⟨x4, hx4, hF⟩ := bnd_some hF
    refine call_eq (i_ArePairs_ok pairs x4 hx4) rfl ((rlL_cons (cPair.rl_psl (l := 0) (l' := 0) _ pairs rfl) rlL_nil)) rfl rfl ?_
    refine sxk 3 tabOK rfl ?_
    refine ops_ifnb (g := 19) hF rfl (fun hc hF => ?_) (fun hc hF => ?_)
    · refine sxk 7 tabOK rfl ?_
      refine aops_nil ?_
      refine at_true rfl ?_
      refine at_seq ?_
      refine at_keep [4, 7] rfl ?_
      refine at_region ?_
      refine sv rfl (ov_build tabOK rfl rfl) rfl ?_
      refine sxk 4 tabOK rfl ?_
      refine aops_nil ?_
      refine at_le (le_freeze 5 rfl rfl (by simp) rfl) ?_
      refine at_ret ?_
      refine tk_r ?_
      obtain rfl := Option.some.inj hF
      refine ret_le rfl ?_
      exact (vle_tup (.cons (vle_refl _) (.cons (vle_refl _) (.cons (vle_refl _) .nil))))
    · refine sxk 1 tabOK rfl ?_
      refine sv rfl (oc_len cPair tabOK rfl rfl rfl) rfl ?_
      refine sxk 1 tabOK rfl ?_
      obtain ⟨x5, hx5, hF⟩ := bnd_some hF
      refine call_eq (i_itemsIn_ok RF d x5 hx5) rfl ((rlL_cons (cDat.rl_agg (l := 0) (l' := 0) _ d rfl) rlL_nil)) rfl rfl ?_
      obtain ⟨hb, hF⟩ := chk_some hF
      refine s_add tabOK rfl rfl rfl hb rfl ?_
      refine sxk 2 tabOK rfl ?_
      refine aops_nil ?_
      refine ct_if hF rfl (fun hc hF => ?_) (fun hc hF => ?_)
      · refine at_seq ?_
        refine at_keep [4, 7] rfl ?_
        refine at_region ?_
        refine sv rfl (ov_build tabOK rfl rfl) rfl ?_
        refine sxk 4 tabOK rfl ?_
        refine aops_nil ?_
        refine at_le (le_freeze 5 rfl rfl (by simp) rfl) ?_
        refine at_ret ?_
        refine tk_r ?_
        obtain rfl := Option.some.inj hF
        refine ret_le rfl ?_
        exact (vle_tup (.cons (vle_refl _) (.cons (vle_refl _) (.cons (vle_refl _) .nil))))
      · refine at_skip ?_
        refine at_seq ?_
        refine at_keep [2, 4, 7] rfl ?_
        refine at_region ?_
        refine sxk 2 tabOK rfl ?_
        obtain ⟨x6, hx6, hF⟩ := bnd_some hF
        refine call_io 5 (i_valueOf_ok RF d pairs x6 hx6) rfl (rnL_cons (rn_of_rl _ (cDat.rl_agg (l := 0) (l' := 0) _ d rfl)) (rnL_cons rfl rnL_nil)) rfl (Cd.rnR cPair _ pairs rfl) (rn_tup (rnL_cons (rn_of_rl _ (cVal.rl_agg (l := 1) (l' := 1) _ x6.1 rfl)) (rnL_cons rfl rnL_nil))) (Cd.rnR cPair _ x6.2 rfl) rfl ?_
        refine sxk 6 tabOK rfl ?_
        refine aops_nil ?_
        refine at_seq ?_
        refine at_keep [4, 7, 8] rfl ?_
        refine at_region ?_
        refine sxk 5 tabOK rfl ?_
        refine aops_nil ?_
        refine at_le (le_freeze 5 rfl rfl (by simp) rfl) ?_
        refine at_ret ?_
        obtain rfl := Option.some.inj hF
        refine ret_le rfl ?_
        exact (vle_tup (.cons (vle_refl _) (.cons (vle_refl _) (.cons (vle_refl _) .nil))))

theorem i_ValueOf_own (d : PDat) (pairs : List PPair) (q : PVal × List PPair × Bool) (hF : i_ValueOf d pairs = some q) : FC Try.prog 36 [.agg (cDat.row 0 d), .psl 0 6 (pairs.map (cPair.enc 0))] [] 3 (fun x h2 => ∃ j, x = .tup [.agg [.int .i64 q.1.kind, .int .i64 q.1.number, .str q.1.text], .hsl j 0 q.2.1.length, .bool q.2.2] ∧ hget h2 j = some ⟨6, q.2.1.map (cPair.enc 0)⟩) := by
  refine fc_body tabOK Try.func36 rfl Try.ntmps36 rfl rfl rfl ?_
  unfold i_ValueOf at hF
  refine at_seq ?_
  refine at_region ?_
  refine sxk 4 tabOK rfl ?_
  refine aops_nil ?_
  refine at_seq ?_
  refine at_region ?_
  refine sxk 1 tabOK rfl ?_
  obtain ⟨hb, hF⟩ := chk_some hF
  refine sc_append0 cPair (l := 0) (ys := pairs) hb rfl tabOK rfl rfl rfl rfl rfl rfl (srcC_psl cPair rfl rfl rfl) rfl ?_
  refine sxk 1 tabOK rfl ?_
  refine aops_nil ?_
  refine at_seq ?_
  refine at_seq ?_
  refine at_region ?_
  refine sxk 1 tabOK rfl ?_
  obtain ⟨x3, hx3, hF⟩ := bnd_some hF
  refine call_eq (i_IsDatum_ok d x3 hx3) rfl ((rlL_cons (cDat.rl_agg (l := 0) (l' := 0) _ d rfl) rlL_nil)) rfl rfl ?_
  refine sxk 2 tabOK rfl ?_
  refine ops_ifnb (g := 14) hF rfl (fun hc hF => ?_) (fun hc hF => ?_)
  · refine sxk 12 tabOK rfl ?_
    refine aops_nil ?_
    refine at_true rfl ?_
    refine at_seq ?_
    refine at_keep [4, 7] rfl ?_
    refine at_region ?_
    refine sv rfl (ov_build tabOK rfl rfl) rfl ?_
    refine sxk 4 tabOK rfl ?_
    refine aops_nil ?_
    refine at_ret ?_
    refine tk_r ?_
    obtain rfl := Option.some.inj hF
    exact ⟨_, rfl, 5, rfl, rfl⟩
  · refine sxk 1 tabOK rfl ?_
    obtain ⟨x4, hx4, hF⟩ := bnd_some hF
    refine call_eq (i_ArePairs_ok pairs x4 hx4) rfl ((rlL_cons (cPair.rl_psl (l := 0) (l' := 0) _ pairs rfl) rlL_nil)) rfl rfl ?_
    refine sxk 3 tabOK rfl ?_
    refine ops_ifnb (g := 19) hF rfl (fun hc hF => ?_) (fun hc hF => ?_)
    · refine sxk 7 tabOK rfl ?_
      refine aops_nil ?_
      refine at_true rfl ?_
      refine at_seq ?_
      refine at_keep [4, 7] rfl ?_
      refine at_region ?_
      refine sv rfl (ov_build tabOK rfl rfl) rfl ?_
      refine sxk 4 tabOK rfl ?_
      refine aops_nil ?_
      refine at_ret ?_
      refine tk_r ?_
      obtain rfl := Option.some.inj hF
      exact ⟨_, rfl, 5, rfl, rfl⟩
    · refine sxk 1 tabOK rfl ?_
      refine sv rfl (oc_len cPair tabOK rfl rfl rfl) rfl ?_
      refine sxk 1 tabOK rfl ?_
      obtain ⟨x5, hx5, hF⟩ := bnd_some hF
      refine call_eq (i_itemsIn_ok RF d x5 hx5) rfl ((rlL_cons (cDat.rl_agg (l := 0) (l' := 0) _ d rfl) rlL_nil)) rfl rfl ?_
      obtain ⟨hb, hF⟩ := chk_some hF
      refine s_add tabOK rfl rfl rfl hb rfl ?_
      refine sxk 2 tabOK rfl ?_
      refine aops_nil ?_
      refine ct_if hF rfl (fun hc hF => ?_) (fun hc hF => ?_)
      · refine at_seq ?_
        refine at_keep [4, 7] rfl ?_
        refine at_region ?_
        refine sv rfl (ov_build tabOK rfl rfl) rfl ?_
        refine sxk 4 tabOK rfl ?_
        refine aops_nil ?_
        refine at_ret ?_
        refine tk_r ?_
        obtain rfl := Option.some.inj hF
        exact ⟨_, rfl, 5, rfl, rfl⟩
      · refine at_skip ?_
        refine at_seq ?_
        refine at_keep [2, 4, 7] rfl ?_
        refine at_region ?_
        refine sxk 2 tabOK rfl ?_
        obtain ⟨x6, hx6, hF⟩ := bnd_some hF
        refine call_io 5 (i_valueOf_ok RF d pairs x6 hx6) rfl (rnL_cons (rn_of_rl _ (cDat.rl_agg (l := 0) (l' := 0) _ d rfl)) (rnL_cons rfl rnL_nil)) rfl (Cd.rnR cPair _ pairs rfl) (rn_tup (rnL_cons (rn_of_rl _ (cVal.rl_agg (l := 1) (l' := 1) _ x6.1 rfl)) (rnL_cons rfl rnL_nil))) (Cd.rnR cPair _ x6.2 rfl) rfl ?_
        refine sxk 6 tabOK rfl ?_
        refine aops_nil ?_
        refine at_seq ?_
        refine at_keep [4, 7, 8] rfl ?_
        refine at_region ?_
        refine sxk 5 tabOK rfl ?_
        refine aops_nil ?_
        refine at_ret ?_
        obtain rfl := Option.some.inj hF
        exact ⟨_, rfl, 5, rfl, rfl⟩

theorem w_markDatum_ok (a : PDat) (k : Int) (q : Int × List PDat) (hF : w_markDatum a k = some q) : FC Try.prog 38 [.agg [.int .i64 a.kind, .int .i64 a.number, .str a.text, .hsl 0 0 a.items.length], .int .i64 k] [(0, ⟨4, a.items.map (cDat.enc 2)⟩)] 3 (fun x h2 => x = .int .i64 q.1 ∧ hget h2 0 = some ⟨4, q.2.map (cDat.enc 2)⟩) := by
  refine FC.of_le_lent ?_
  refine fc_body tabOK Try.func38 rfl Try.ntmps38 rfl rfl rfl ?_
  unfold w_markDatum at hF
  refine at_seq ?_
  refine at_region ?_
  refine sxk 2 tabOK rfl ?_
  refine aops_nil ?_
  refine at_seq ?_
  refine at_region ?_
  refine sxk 3 tabOK rfl ?_
  obtain ⟨x3, hx3, hF⟩ := bnd_some hF
  obtain ⟨hb_x3, hF⟩ := chk_some hF
  refine call_lend1 0 (w_markDatumS_ok RF a.items k x3 hx3) rfl (rnL_cons rfl (rnL_cons rfl rnL_nil)) rfl (Cd.rnR cDat _ a.items rfl) (rn_of_rl _ rfl) (Cd.rnR cDat _ x3.2 rfl) rfl ?_
  refine sxk 1 tabOK rfl ?_
  refine aops_nil ?_
  refine at_seq ?_
  refine at_keep [1] rfl ?_
  refine at_region ?_
  refine sxk 2 tabOK rfl ?_
  refine aops_nil ?_
  refine at_ret ?_
  obtain rfl := Option.some.inj hF
  exact ret_lent rfl ((vle_refl _)) rfl

theorem w_FnExactValueOf_ok (aD : PDat) (aPairs : List PPair) (q : Bool) (hF : w_FnExactValueOf aD aPairs = some q) : FC Try.prog 8 [.agg (cDat.row 0 aD), .psl 0 6 (aPairs.map (cPair.enc 0))] [] 3 (fun x _ => x = .bool q) := by
  refine FC.of_le ?_
  refine fc_body tabOK Try.func8 rfl Try.ntmps8 rfl rfl rfl ?_
  unfold w_FnExactValueOf at hF
  refine at_seq ?_
  refine at_region ?_
  refine sxk 2 tabOK rfl ?_
  refine aops_nil ?_
  refine at_seq ?_
  refine at_region ?_
  refine sxk 1 tabOK rfl ?_
  refine aops_nil ?_
  refine at_seq ?_
  refine at_region ?_
  refine sxk 2 tabOK rfl ?_
  obtain ⟨x3, hx3, hF⟩ := bnd_some hF
  refine call_eq (w_szDatum_ok RF aD 1048576 x3 hx3) rfl ((rlL_cons (cDat.rl_agg (l := 0) (l' := 0) _ aD rfl) (rlL_cons (rfl) rlL_nil))) rfl rfl ?_
  refine sxk 1 tabOK rfl ?_
  refine aops_nil ?_
  refine at_seq ?_
  refine at_seq ?_
  refine at_region ?_
  refine sxk 2 tabOK rfl ?_
  refine aops_nil ?_
  refine ct_if hF rfl (fun hc hF => ?_) (fun hc hF => ?_)
  · refine at_seq ?_
    refine at_keep [] rfl ?_
    refine at_region ?_
    refine sxk 1 tabOK rfl ?_
    refine aops_nil ?_
    refine at_ret ?_
    refine tk_r ?_
    obtain rfl := Option.some.inj hF
    refine ret_le rfl ?_
    exact (vle_refl _)
  · refine at_skip ?_
    refine at_seq ?_
    refine at_keep [1, 2, 5] rfl ?_
    refine at_region ?_
    refine sxk 2 tabOK rfl ?_
    obtain ⟨x4, hx4, hF⟩ := bnd_some hF
    refine call_eq (w_szPairS_ok aPairs x3 x4 hx4) rfl ((rlL_cons (cPair.rl_psl (l := 0) (l' := 0) _ aPairs rfl) (rlL_cons (rfl) rlL_nil))) rfl rfl ?_
    refine sxk 1 tabOK rfl ?_
    refine aops_nil ?_
    refine at_seq ?_
    refine at_seq ?_
    refine at_region ?_
    refine sxk 2 tabOK rfl ?_
    refine aops_nil ?_
    refine ct_if hF rfl (fun hc hF => ?_) (fun hc hF => ?_)
    · refine at_seq ?_
      refine at_keep [] rfl ?_
      refine at_region ?_
      refine sxk 1 tabOK rfl ?_
      refine aops_nil ?_
      refine at_ret ?_
      refine tk_r ?_
      obtain rfl := Option.some.inj hF
      refine ret_le rfl ?_
      exact (vle_refl _)
    · refine at_skip ?_
      refine at_seq ?_
      refine at_region ?_
      refine sxk 1 tabOK rfl ?_
      obtain ⟨x5, hx5, hF⟩ := bnd_some hF
      refine call_eq (w_toDatum_ok RF aD x5 hx5) rfl ((rlL_cons (cDat.rl_agg (l := 0) (l' := 0) _ aD rfl) rlL_nil)) (cDat.rl_agg (l := 1) (l' := 1) _ x5 rfl) rfl ?_
      refine sxk 1 tabOK rfl ?_
      obtain ⟨x6, hx6, hF⟩ := bnd_some hF
      refine call_eq (w_toPairS_ok aPairs x6 hx6) rfl ((rlL_cons (cPair.rl_psl (l := 0) (l' := 0) _ aPairs rfl) rlL_nil)) (cPair.rl_psl (l := 1) (l' := 1) _ x6 rfl) rfl ?_
      obtain ⟨x7, hx7, hF⟩ := bnd_some hF
      refine call_eq (s_ValueOf_ok x5 x6 x7 hx7) rfl ((rlL_cons (cDat.rl_agg (l := 1) (l' := 0) _ x5 rfl) (rlL_cons (cPair.rl_psl (l := 1) (l' := 0) _ x6 rfl) rlL_nil))) (rl_tupL (rlL_cons (cVal.rl_agg (l := 1) (l' := 1) _ x7.1 rfl) (rlL_cons (cPair.rl_psl (l := 1) (l' := 1) _ x7.2.1 rfl) (rlL_cons (rfl) rlL_nil)))) rfl ?_
      refine sxk 8 tabOK rfl ?_
      refine aops_nil ?_
      refine at_seq ?_
      refine at_keep [1, 2, 6, 7, 8] rfl ?_
      refine at_region ?_
      refine sxk 1 tabOK rfl ?_
      obtain ⟨x8, hx8, hF⟩ := bnd_some hF
      refine call_o1 (w_toDatum_own RF aD x8 hx8) rfl (rdL_cons (rd_rl (cDat.rl_agg (l := 0) (l' := 0) _ aD rfl)) rdL_nil) (Cd.rlR cDat f01 2 _) rfl (fun j => by simp [V.rnA, V.rnAL, V.rl, upJ, dn]) rfl ?_
      refine sxk 1 tabOK rfl ?_
      refine sc_storeX tabOK rfl rfl rfl rfl rfl (one_cons (one_v rfl) (one_cons (one_v rfl) (one_cons (one_v rfl) (one_cons (one_h rfl (by simp)) one_nil)))) rfl rfl rfl ?_
      refine aops_nil ?_
      refine at_seq ?_
      refine at_region ?_
      refine sxk 1 tabOK rfl ?_
      obtain ⟨x9, hx9, hF⟩ := bnd_some hF
      refine call_o1 (w_toPairS_own aPairs x9 hx9) rfl (rdL_cons (rd_rl (cPair.rl_psl (l := 0) (l' := 0) _ aPairs rfl)) rdL_nil) (Cd.rlR cPair f01 0 _) rfl (fun j => by simp [V.rnA, V.rnAL, V.rl, upJ, dn]) rfl ?_
      refine sxk 1 tabOK rfl ?_
      refine aops_nil ?_
      refine at_seq ?_
      refine at_region ?_
      refine sxk 2 tabOK rfl ?_
      obtain ⟨x10, hx10, hF⟩ := bnd_some hF
      refine call_o1 (i_ValueOf_own x8 x9 x10 hx10) rfl (rdL_cons (rd_agg (rdL_cons (rd_rl (rfl)) (rdL_cons (rd_rl (rfl)) (rdL_cons (rd_rl (rfl)) (rdL_cons (rd_hslD rfl (by simp) rfl (Cd.dps0 cDat 2 (fun _ => rfl) _) (cDat.rlR (fun _ => 0) 2 _)) rdL_nil))))) (rdL_cons (rd_hslF rfl (by simp) (cPair.rlR _ 0 _)) rdL_nil)) (Cd.rlR cPair f01 0 _) rfl (fun j => by simp [V.rnA, V.rnAL, V.rl, upJ, dn]) rfl ?_
      refine sxk 8 tabOK rfl ?_
      refine aops_nil ?_
      refine at_seq ?_
      refine at_seq ?_
      refine at_keep [1, 2, 6, 7, 8, 9, 10, 11, 12, 13] rfl ?_
      refine at_region ?_
      refine sxk 2 tabOK rfl ?_
      obtain ⟨x11, hx11, hF⟩ := bnd_some hF
      refine call_eq (w_eqValue_ok x10.1 x7.1 x11 hx11) rfl ((rlL_cons (cVal.rl_agg (l := 1) (l' := 0) _ x10.1 rfl) (rlL_cons (cVal.rl_agg (l := 1) (l' := 0) _ x7.1 rfl) rlL_nil))) rfl rfl ?_
      refine sxk 2 tabOK rfl ?_
      refine ops_ifnb (g := 54) hF rfl (fun hc hF => ?_) (fun hc hF => ?_)
      · refine sxk 10 tabOK rfl ?_
        refine aops_nil ?_
        refine at_true rfl ?_
        refine at_seq ?_
        refine at_keep [] rfl ?_
        refine at_region ?_
        refine sxk 1 tabOK rfl ?_
        refine aops_nil ?_
        refine at_ret ?_
        refine tk_r ?_
        obtain rfl := Option.some.inj hF
        refine ret_le rfl ?_
        exact (vle_refl _)
      · refine sxk 2 tabOK rfl ?_
        obtain ⟨x12, hx12, hF⟩ := bnd_some hF
        refine call_rdx (w_eqPairS_ok x10.2.1 x7.2.1 x12 hx12) rfl (rdL_cons (rd_hslF rfl (by simp) (cPair.rlR _ 0 _)) (rdL_cons (rd_rl (cPair.rl_psl (l := 1) (l' := 0) _ x7.2.1 rfl)) rdL_nil)) rfl rfl ?_
        refine sxk 3 tabOK rfl ?_
        refine ops_ifnb (g := 60) hF rfl (fun hc hF => ?_) (fun hc hF => ?_)
        · refine sxk 4 tabOK rfl ?_
          refine aops_nil ?_
          refine at_true rfl ?_
          refine at_seq ?_
          refine at_keep [] rfl ?_
          refine at_region ?_
          refine sxk 1 tabOK rfl ?_
          refine aops_nil ?_
          refine at_ret ?_
          refine tk_r ?_
          obtain rfl := Option.some.inj hF
          refine ret_le rfl ?_
          exact (vle_refl _)
        · refine sxk 2 tabOK rfl ?_
          refine sv rfl (ov_bne tabOK rfl rfl rfl) rfl ?_
          refine sxk 1 tabOK rfl ?_
          refine aops_nil ?_
          refine ct_ifn hF rfl (fun hc hF => ?_) (fun hc hF => ?_)
          · refine at_seq ?_
            refine at_keep [] rfl ?_
            refine at_region ?_
            refine sxk 1 tabOK rfl ?_
            refine aops_nil ?_
            refine at_ret ?_
            refine tk_r ?_
            obtain rfl := Option.some.inj hF
            refine ret_le rfl ?_
            exact (vle_refl _)
          · refine at_skip ?_
            refine at_seq ?_
            refine at_seq ?_
            refine at_keep [1, 2, 6, 7, 8, 9, 10, 11, 12, 13] rfl ?_
            refine at_drawnM (id := 14) 3 (by kernel_rfl) (by kernel_rfl) ?_
            refine nx tabOK rfl ?_
            refine nx tabOK rfl ?_
            obtain ⟨x13, hx13, hF⟩ := bnd_some hF
            refine n_call (w_toDatum_ok RF aD x13 hx13) rfl ((rlL_cons (cDat.rl_agg (l := 0) (l' := 0) _ aD rfl) rlL_nil)) (cDat.rl_agg (l := 1) (l' := 1) _ x13 rfl) rfl ?_
            refine dn_nil rfl ?_
            obtain ⟨x14, hx14, hF⟩ := bnd_some hF
            refine call_rdx (w_eqDatum_ok RF x8 x13 x14 hx14) rfl (rdL_cons (rd_agg (rdL_cons (rd_rl (rfl)) (rdL_cons (rd_rl (rfl)) (rdL_cons (rd_rl (rfl)) (rdL_cons (rd_hslD rfl (by simp) rfl (Cd.dps0 cDat 2 (fun _ => rfl) _) (cDat.rlR (fun _ => 0) 2 _)) rdL_nil))))) (rdL_cons (rd_rl (cDat.rl_agg (l := 1) (l' := 0) _ x13 rfl)) rdL_nil)) rfl rfl ?_
            refine sxk 1 tabOK rfl ?_
            refine aops_nil ?_
            refine ct_bn hF rfl (fun hc hF => ?_) (fun hc hF => ?_)
            · refine at_seq ?_
              refine at_keep [] rfl ?_
              refine at_region ?_
              refine sxk 1 tabOK rfl ?_
              refine aops_nil ?_
              refine at_ret ?_
              refine tk_r ?_
              obtain rfl := Option.some.inj hF
              refine ret_le rfl ?_
              exact (vle_refl _)
            · refine at_skip ?_
              refine at_seq ?_
              refine at_seq ?_
              refine at_region ?_
              refine sxk 2 tabOK rfl ?_
              obtain ⟨x15, hx15, hF⟩ := bnd_some hF
              refine call_eq (w_toPairS_ok aPairs x15 hx15) rfl ((rlL_cons (cPair.rl_psl (l := 0) (l' := 0) _ aPairs rfl) rlL_nil)) (cPair.rl_psl (l := 1) (l' := 1) _ x15 rfl) rfl ?_
              obtain ⟨x16, hx16, hF⟩ := bnd_some hF
              refine call_rdx (w_eqPairS_ok x9 x15 x16 hx16) rfl (rdL_cons (rd_hslF rfl (by simp) (cPair.rlR _ 0 _)) (rdL_cons (rd_rl (cPair.rl_psl (l := 1) (l' := 0) _ x15 rfl)) rdL_nil)) rfl rfl ?_
              refine sxk 1 tabOK rfl ?_
              refine aops_nil ?_
              refine ct_bn hF rfl (fun hc hF => ?_) (fun hc hF => ?_)
              · refine at_seq ?_
                refine at_keep [] rfl ?_
                refine at_region ?_
                refine sxk 1 tabOK rfl ?_
                refine aops_nil ?_
                refine at_ret ?_
                refine tk_r ?_
                obtain rfl := Option.some.inj hF
                refine ret_le rfl ?_
                exact (vle_refl _)
              · refine at_skip ?_
                refine at_seq ?_
                refine at_keep [1, 2, 6, 7, 8, 9, 10, 11, 12, 13] rfl ?_
                refine at_region ?_
                refine sxk 1 tabOK rfl ?_
                refine aops_nil ?_
                refine at_seq ?_
                refine at_region ?_
                refine sxk 2 tabOK rfl ?_
                obtain ⟨x17, hx17, hF⟩ := bnd_some hF
                obtain ⟨hb_x17, hF⟩ := chk_some hF
                refine call_lend1 5 (w_markDatum_ok x8 1 x17 hx17) rfl (rnL_cons rfl (rnL_cons rfl rnL_nil)) rfl (Cd.rnR cDat _ x8.items rfl) (rn_of_rl _ rfl) (Cd.rnR cDat _ x17.2 rfl) rfl ?_
                refine sxk 1 tabOK rfl ?_
                refine aops_nil ?_
                refine at_seq ?_
                refine at_region ?_
                refine sxk 2 tabOK rfl ?_
                obtain ⟨x18, hx18, hF⟩ := bnd_some hF
                obtain ⟨hb_x18, hF⟩ := chk_some hF
                refine call_lend1 7 (w_markPairS_ok x9 x17.1 x18 hx18) rfl (rnL_cons rfl (rnL_cons rfl rnL_nil)) rfl (Cd.rnR cPair _ x9 rfl) (rn_of_rl _ rfl) (Cd.rnR cPair _ x18.2 rfl) rfl ?_
                refine sxk 1 tabOK rfl ?_
                refine aops_nil ?_
                refine at_seq ?_
                refine at_seq ?_
                refine at_keep [1, 2, 6, 7, 8, 11, 12, 13, 14] rfl ?_
                refine at_region ?_
                refine sxk 3 tabOK rfl ?_
                refine ops_if (g := 83) hF rfl (fun hc hF => ?_) (fun hc hF => ?_)
                · refine sxk 16 tabOK rfl ?_
                  refine aops_nil ?_
                  refine at_true rfl ?_
                  refine at_seq ?_
                  refine at_keep [] rfl ?_
                  refine at_region ?_
                  refine sxk 1 tabOK rfl ?_
                  refine aops_nil ?_
                  refine at_ret ?_
                  refine tk_r ?_
                  obtain rfl := Option.some.inj hF
                  refine ret_le rfl ?_
                  exact (vle_refl _)
                · refine sxk 2 tabOK rfl ?_
                  obtain ⟨x19, hx19, hF⟩ := bnd_some hF
                  refine call_eq (w_eqValue_ok x10.1 x7.1 x19 hx19) rfl ((rlL_cons (cVal.rl_agg (l := 1) (l' := 0) _ x10.1 rfl) (rlL_cons (cVal.rl_agg (l := 1) (l' := 0) _ x7.1 rfl) rlL_nil))) rfl rfl ?_
                  refine sxk 3 tabOK rfl ?_
                  refine ops_ifnb (g := 89) hF rfl (fun hc hF => ?_) (fun hc hF => ?_)
                  · refine sxk 10 tabOK rfl ?_
                    refine aops_nil ?_
                    refine at_true rfl ?_
                    refine at_seq ?_
                    refine at_keep [] rfl ?_
                    refine at_region ?_
                    refine sxk 1 tabOK rfl ?_
                    refine aops_nil ?_
                    refine at_ret ?_
                    refine tk_r ?_
                    obtain rfl := Option.some.inj hF
                    refine ret_le rfl ?_
                    exact (vle_refl _)
                  · refine sxk 2 tabOK rfl ?_
                    obtain ⟨x20, hx20, hF⟩ := bnd_some hF
                    refine call_rdx (w_eqPairS_ok x10.2.1 x7.2.1 x20 hx20) rfl (rdL_cons (rd_hslF rfl (by simp) (cPair.rlR _ 0 _)) (rdL_cons (rd_rl (cPair.rl_psl (l := 1) (l' := 0) _ x7.2.1 rfl)) rdL_nil)) rfl rfl ?_
                    refine sxk 3 tabOK rfl ?_
                    refine ops_ifnb (g := 95) hF rfl (fun hc hF => ?_) (fun hc hF => ?_)
                    · refine sxk 4 tabOK rfl ?_
                      refine aops_nil ?_
                      refine at_true rfl ?_
                      refine at_seq ?_
                      refine at_keep [] rfl ?_
                      refine at_region ?_
                      refine sxk 1 tabOK rfl ?_
                      refine aops_nil ?_
                      refine at_ret ?_
                      refine tk_r ?_
                      obtain rfl := Option.some.inj hF
                      refine ret_le rfl ?_
                      exact (vle_refl _)
                    · refine sxk 2 tabOK rfl ?_
                      refine sv rfl (ov_bne tabOK rfl rfl rfl) rfl ?_
                      refine sxk 1 tabOK rfl ?_
                      refine aops_nil ?_
                      refine ct_ifn hF rfl (fun hc hF => ?_) (fun hc hF => ?_)
                      · refine at_seq ?_
                        refine at_keep [] rfl ?_
                        refine at_region ?_
                        refine sxk 1 tabOK rfl ?_
                        refine aops_nil ?_
                        refine at_ret ?_
                        refine tk_r ?_
                        obtain rfl := Option.some.inj hF
                        refine ret_le rfl ?_
                        exact (vle_refl _)
                      · refine at_skip ?_
                        refine at_seq ?_
                        refine at_keep [1, 2, 6, 7, 8, 12] rfl ?_
                        refine at_region ?_
                        refine sxk 1 tabOK rfl ?_
                        refine aops_nil ?_
                        refine at_seq ?_
                        refine at_region ?_
                        refine sxk 2 tabOK rfl ?_
                        obtain ⟨x21, hx21, hF⟩ := bnd_some hF
                        obtain ⟨hb_x21, hF⟩ := chk_some hF
                        refine call_lend1 8 (w_markPairS_ok x10.2.1 1 x21 hx21) rfl (rnL_cons rfl (rnL_cons rfl rnL_nil)) rfl (Cd.rnR cPair _ x10.2.1 rfl) (rn_of_rl _ rfl) (Cd.rnR cPair _ x21.2 rfl) rfl ?_
                        refine ops_le (le_slot (y := .hsl 8 0 x21.2.length) 12 rfl (vle_eq (congrArg (V.hsl 8 0) hb_x21.symm)) rfl) ?_
                        refine sxk 1 tabOK rfl ?_
                        refine aops_nil ?_
                        refine at_seq ?_
                        refine at_region ?_
                        refine sxk 1 tabOK rfl ?_
                        refine aops_nil ?_
                        refine at_seq ?_
                        refine at_region ?_
                        refine sxk 2 tabOK rfl ?_
                        obtain ⟨x22, hx22, hF⟩ := bnd_some hF
                        refine call_rdx (w_heldPairS_ok x21.2 1 x22 hx22) rfl (rdL_cons (rd_hslF rfl (by simp) (cPair.rlR _ 0 _)) (rdL_cons (rd_rl (rfl)) rdL_nil)) rfl rfl ?_
                        refine sxk 1 tabOK rfl ?_
                        refine aops_nil ?_
                        refine at_seq ?_
                        refine at_seq ?_
                        refine at_region ?_
                        refine sxk 2 tabOK rfl ?_
                        refine aops_nil ?_
                        refine ct_if hF rfl (fun hc hF => ?_) (fun hc hF => ?_)
                        · refine at_seq ?_
                          refine at_keep [] rfl ?_
                          refine at_region ?_
                          refine sxk 1 tabOK rfl ?_
                          refine aops_nil ?_
                          refine at_ret ?_
                          refine tk_r ?_
                          obtain rfl := Option.some.inj hF
                          refine ret_le rfl ?_
                          exact (vle_refl _)
                        · refine at_skip ?_
                          refine at_seq ?_
                          refine at_seq ?_
                          refine at_keep [1, 2, 6, 7, 8, 12, 15, 16] rfl ?_
                          refine at_region ?_
                          refine sxk 3 tabOK rfl ?_
                          refine aops_nil ?_
                          refine ct_ifn hF rfl (fun hc hF => ?_) (fun hc hF => ?_)
                          · refine at_seq ?_
                            refine at_keep [] rfl ?_
                            refine at_region ?_
                            refine sxk 1 tabOK rfl ?_
                            refine aops_nil ?_
                            refine at_ret ?_
                            refine tk_r ?_
                            obtain rfl := Option.some.inj hF
                            refine ret_le rfl ?_
                            exact (vle_refl _)
                          · refine at_skip ?_
                            refine at_seq ?_
                            refine at_region ?_
                            refine sxk 1 tabOK rfl ?_
                            obtain ⟨x23, hx23, hF⟩ := bnd_some hF
                            refine call_eq (w_toDatum_ok RF aD x23 hx23) rfl ((rlL_cons (cDat.rl_agg (l := 0) (l' := 0) _ aD rfl) rlL_nil)) (cDat.rl_agg (l := 1) (l' := 1) _ x23 rfl) rfl ?_
                            refine sxk 1 tabOK rfl ?_
                            obtain ⟨x24, hx24, hF⟩ := bnd_some hF
                            refine call_eq (w_toPairS_ok aPairs x24 hx24) rfl ((rlL_cons (cPair.rl_psl (l := 0) (l' := 0) _ aPairs rfl) rlL_nil)) (cPair.rl_psl (l := 1) (l' := 1) _ x24 rfl) rfl ?_
                            obtain ⟨x25, hx25, hF⟩ := bnd_some hF
                            refine call_o1 (i_ValueOf_own x23 x24 x25 hx25) rfl (rdL_cons (rd_rl (cDat.rl_agg (l := 1) (l' := 0) _ x23 rfl)) (rdL_cons (rd_rl (cPair.rl_psl (l := 1) (l' := 0) _ x24 rfl)) rdL_nil)) (Cd.rlR cPair f01 0 _) rfl (fun j => by simp [V.rnA, V.rnAL, V.rl, upJ, dn]) rfl ?_
                            refine sxk 8 tabOK rfl ?_
                            refine aops_nil ?_
                            refine at_seq ?_
                            refine at_seq ?_
                            refine at_keep [6, 7, 8, 12, 15, 17, 18, 19] rfl ?_
                            refine at_region ?_
                            refine sxk 2 tabOK rfl ?_
                            obtain ⟨x26, hx26, hF⟩ := bnd_some hF
                            refine call_eq (w_eqValue_ok x25.1 x7.1 x26 hx26) rfl ((rlL_cons (cVal.rl_agg (l := 1) (l' := 0) _ x25.1 rfl) (rlL_cons (cVal.rl_agg (l := 1) (l' := 0) _ x7.1 rfl) rlL_nil))) rfl rfl ?_
                            refine sxk 2 tabOK rfl ?_
                            refine ops_ifnb (g := 124) hF rfl (fun hc hF => ?_) (fun hc hF => ?_)
                            · refine sxk 10 tabOK rfl ?_
                              refine aops_nil ?_
                              refine at_true rfl ?_
                              refine at_seq ?_
                              refine at_keep [] rfl ?_
                              refine at_region ?_
                              refine sxk 1 tabOK rfl ?_
                              refine aops_nil ?_
                              refine at_ret ?_
                              refine tk_r ?_
                              obtain rfl := Option.some.inj hF
                              refine ret_le rfl ?_
                              exact (vle_refl _)
                            · refine sxk 2 tabOK rfl ?_
                              obtain ⟨x27, hx27, hF⟩ := bnd_some hF
                              refine call_rdx (w_eqPairS_ok x25.2.1 x7.2.1 x27 hx27) rfl (rdL_cons (rd_hslF rfl (by simp) (cPair.rlR _ 0 _)) (rdL_cons (rd_rl (cPair.rl_psl (l := 1) (l' := 0) _ x7.2.1 rfl)) rdL_nil)) rfl rfl ?_
                              refine sxk 3 tabOK rfl ?_
                              refine ops_ifnb (g := 130) hF rfl (fun hc hF => ?_) (fun hc hF => ?_)
                              · refine sxk 4 tabOK rfl ?_
                                refine aops_nil ?_
                                refine at_true rfl ?_
                                refine at_seq ?_
                                refine at_keep [] rfl ?_
                                refine at_region ?_
                                refine sxk 1 tabOK rfl ?_
                                refine aops_nil ?_
                                refine at_ret ?_
                                refine tk_r ?_
                                obtain rfl := Option.some.inj hF
                                refine ret_le rfl ?_
                                exact (vle_refl _)
                              · refine sxk 2 tabOK rfl ?_
                                refine sv rfl (ov_bne tabOK rfl rfl rfl) rfl ?_
                                refine sxk 1 tabOK rfl ?_
                                refine aops_nil ?_
                                refine ct_ifn hF rfl (fun hc hF => ?_) (fun hc hF => ?_)
                                · refine at_seq ?_
                                  refine at_keep [] rfl ?_
                                  refine at_region ?_
                                  refine sxk 1 tabOK rfl ?_
                                  refine aops_nil ?_
                                  refine at_ret ?_
                                  refine tk_r ?_
                                  obtain rfl := Option.some.inj hF
                                  refine ret_le rfl ?_
                                  exact (vle_refl _)
                                · refine at_skip ?_
                                  refine at_seq ?_
                                  refine at_keep [12, 15] rfl ?_
                                  refine at_region ?_
                                  refine sxk 1 tabOK rfl ?_
                                  refine aops_nil ?_
                                  refine at_seq ?_
                                  refine at_region ?_
                                  refine sxk 2 tabOK rfl ?_
                                  obtain ⟨x28, hx28, hF⟩ := bnd_some hF
                                  refine call_rdx (w_heldPairS_ok x21.2 1 x28 hx28) rfl (rdL_cons (rd_hslF rfl (by simp) (cPair.rlR _ 0 _)) (rdL_cons (rd_rl (rfl)) rdL_nil)) rfl rfl ?_
                                  refine sxk 1 tabOK rfl ?_
                                  refine aops_nil ?_
                                  refine at_seq ?_
                                  refine at_seq ?_
                                  refine at_region ?_
                                  refine sxk 2 tabOK rfl ?_
                                  refine aops_nil ?_
                                  refine ct_if hF rfl (fun hc hF => ?_) (fun hc hF => ?_)
                                  · refine at_seq ?_
                                    refine at_keep [] rfl ?_
                                    refine at_region ?_
                                    refine sxk 1 tabOK rfl ?_
                                    refine aops_nil ?_
                                    refine at_ret ?_
                                    refine tk_r ?_
                                    obtain rfl := Option.some.inj hF
                                    refine ret_le rfl ?_
                                    exact (vle_refl _)
                                  · refine at_skip ?_
                                    refine at_seq ?_
                                    refine at_seq ?_
                                    refine at_region ?_
                                    refine sxk 3 tabOK rfl ?_
                                    refine aops_nil ?_
                                    refine ct_ifn hF rfl (fun hc hF => ?_) (fun hc hF => ?_)
                                    · refine at_seq ?_
                                      refine at_keep [] rfl ?_
                                      refine at_region ?_
                                      refine sxk 1 tabOK rfl ?_
                                      refine aops_nil ?_
                                      refine at_ret ?_
                                      refine tk_r ?_
                                      obtain rfl := Option.some.inj hF
                                      refine ret_le rfl ?_
                                      exact (vle_refl _)
                                    · refine at_skip ?_
                                      refine at_seq ?_
                                      refine at_keep [] rfl ?_
                                      refine at_region ?_
                                      refine sxk 1 tabOK rfl ?_
                                      refine aops_nil ?_
                                      refine at_ret ?_
                                      obtain rfl := Option.some.inj hF
                                      refine ret_le rfl ?_
                                      exact (vle_refl _)

end Go.Proofs.Ytiecdekmiabmkaa
