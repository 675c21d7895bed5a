/-
  Walks, made by wip/gen: H
-/
import Derived.Test.YtiecdekmiabmkaaDoorGpH
import Derived.Test.YtiecdekmiabmkaaDoorGwG
set_option linter.unusedVariables false
set_option linter.unusedSimpArgs false
namespace Go.Proofs.YtiecdekmiabmkaaDoor
open Go.Abs
attribute [local irreducible] AT AOps FC DR DN
set_option maxRecDepth 10000
set_option maxHeartbeats 4000000

theorem w_szValue_ok (a : PVal) (left : Int) (q : Int) (hF : w_szValue a left = some q) : FC Tryd.prog 8 [.agg (cVal.row 0 a), .int .i64 left] [] 3 (fun x _ => x = .int .i64 q) := by
  refine FC.of_le ?_
  refine fc_body tabOK Tryd.func8 rfl Tryd.ntmps8 rfl rfl rfl ?_
  unfold w_szValue at hF
  refine at_seq ?_
  refine at_region ?_
  refine sxk 2 tabOK rfl ?_
  refine aops_nil ?_
  refine at_seq ?_
  refine at_region ?_
  refine sxk 4 tabOK rfl ?_
  obtain ⟨hb, hF⟩ := chk_some hF
  refine s_sub tabOK rfl rfl rfl hb rfl ?_
  refine sxk 1 tabOK rfl ?_
  refine aops_nil ?_
  refine at_seq ?_
  refine at_seq ?_
  refine at_keep [1] rfl ?_
  refine at_region ?_
  refine sxk 2 tabOK rfl ?_
  refine aops_nil ?_
  refine ct_if hF rfl (fun hc hF => ?_) (fun hc hF => ?_)
  · refine at_seq ?_
    refine at_region ?_
    refine sxk 1 tabOK rfl ?_
    refine aops_nil ?_
    refine at_ret ?_
    refine tk_r ?_
    obtain rfl := Option.some.inj hF
    refine ret_le rfl ?_
    exact (vle_refl _)
  · refine at_skip ?_
    refine at_seq ?_
    refine at_region ?_
    refine sxk 2 tabOK rfl ?_
    refine aops_nil ?_
    refine at_ret ?_
    obtain rfl := Option.some.inj hF
    refine ret_le rfl ?_
    exact (vle_refl _)

theorem w_szPair_ok (a : PPair) (left : Int) (q : Int) (hF : w_szPair a left = some q) : FC Tryd.prog 21 [.agg (cPair.row 0 a), .int .i64 left] [] 3 (fun x _ => x = .int .i64 q) := by
  refine FC.of_le ?_
  refine fc_body tabOK Tryd.func21 rfl Tryd.ntmps21 rfl rfl rfl ?_
  unfold w_szPair at hF
  refine at_seq ?_
  refine at_region ?_
  refine sxk 2 tabOK rfl ?_
  refine aops_nil ?_
  refine at_seq ?_
  refine at_region ?_
  refine sxk 3 tabOK rfl ?_
  obtain ⟨x3, hx3, hF⟩ := bnd_some hF
  refine call_eq (w_szValue_ok a.h left x3 hx3) rfl ((rlL_cons (cVal.rl_agg (l := 0) (l' := 0) _ a.h rfl) (rlL_cons (rfl) rlL_nil))) rfl rfl ?_
  refine sxk 1 tabOK rfl ?_
  refine aops_nil ?_
  refine at_seq ?_
  refine at_seq ?_
  refine at_region ?_
  refine sxk 2 tabOK rfl ?_
  refine aops_nil ?_
  refine ct_if hF rfl (fun hc hF => ?_) (fun hc hF => ?_)
  · refine at_seq ?_
    refine at_keep [] rfl ?_
    refine at_region ?_
    refine sxk 1 tabOK rfl ?_
    refine aops_nil ?_
    refine at_ret ?_
    refine tk_r ?_
    obtain rfl := Option.some.inj hF
    refine ret_le rfl ?_
    exact (vle_refl _)
  · refine at_skip ?_
    refine at_seq ?_
    refine at_keep [1, 2] rfl ?_
    refine at_region ?_
    refine sxk 3 tabOK rfl ?_
    obtain ⟨x4, hx4, hF⟩ := bnd_some hF
    refine call_eq (w_szValue_ok a.t x3 x4 hx4) rfl ((rlL_cons (cVal.rl_agg (l := 0) (l' := 0) _ a.t rfl) (rlL_cons (rfl) rlL_nil))) rfl rfl ?_
    refine sxk 1 tabOK rfl ?_
    refine aops_nil ?_
    refine at_seq ?_
    refine at_seq ?_
    refine at_region ?_
    refine sxk 2 tabOK rfl ?_
    refine aops_nil ?_
    refine ct_if hF rfl (fun hc hF => ?_) (fun hc hF => ?_)
    · refine at_seq ?_
      refine at_keep [] rfl ?_
      refine at_region ?_
      refine sxk 1 tabOK rfl ?_
      refine aops_nil ?_
      refine at_ret ?_
      refine tk_r ?_
      obtain rfl := Option.some.inj hF
      refine ret_le rfl ?_
      exact (vle_refl _)
    · refine at_skip ?_
      refine at_seq ?_
      refine at_keep [1] rfl ?_
      refine at_region ?_
      refine sxk 2 tabOK rfl ?_
      refine aops_nil ?_
      refine at_ret ?_
      obtain rfl := Option.some.inj hF
      refine ret_le rfl ?_
      exact (vle_refl _)

theorem w_szPairS_ok (a : List PPair) (left : Int) (q : Int) (hF : w_szPairS a left = some q) : FC Tryd.prog 9 [.psl 0 6 (a.map (cPair.enc 0)), .int .i64 left] [] 3 (fun x _ => x = .int .i64 q) := by
  refine FC.of_le ?_
  refine fc_body tabOK Tryd.func9 rfl Tryd.ntmps9 rfl rfl rfl ?_
  unfold w_szPairS at hF
  refine at_seq ?_
  refine at_region ?_
  refine sxk 1 tabOK rfl ?_
  refine aops_nil ?_
  refine at_seq ?_
  refine at_region ?_
  refine sxk 2 tabOK rfl ?_
  refine sv rfl (oc_len cPair tabOK rfl rfl rfl) rfl ?_
  obtain ⟨hb, hF⟩ := chk_some hF
  refine s_sub tabOK rfl rfl rfl hb rfl ?_
  refine sxk 1 tabOK rfl ?_
  refine aops_nil ?_
  refine at_seq ?_
  refine at_seq ?_
  refine at_region ?_
  refine sxk 2 tabOK rfl ?_
  refine aops_nil ?_
  refine ct_if hF rfl (fun hc hF => ?_) (fun hc hF => ?_)
  · refine at_seq ?_
    refine at_keep [] rfl ?_
    refine at_region ?_
    refine sxk 1 tabOK rfl ?_
    refine aops_nil ?_
    refine at_ret ?_
    refine tk_r ?_
    obtain rfl := Option.some.inj hF
    refine ret_le rfl ?_
    exact (vle_refl _)
  · refine at_skip ?_
    refine at_seq ?_
    refine at_seq ?_
    refine at_keep [0, 1] rfl ?_
    refine at_region ?_
    refine sxk 1 tabOK rfl ?_
    refine aops_nil ?_
    refine at_block ?_
    refine cl_loop (σ := Int × Int) (fun v => match v with | (left3, i4) => ⟨[(0, .psl 0 6 (a.map (cPair.enc 0))), (1, .int .i64 left3), (5, .int .i64 i4)], [], 3, 27, []⟩) (w_szPairS_L1 a) LF ((left - (a.length : Int)), 0) hF (le_down (down_all (ee_cons rfl rfl (cPair.ok_psl _ rfl) (ee_cons rfl rfl rfl (ee_cons rfl rfl rfl ee_nil))) he_nil rfl rfl rfl rfl)) ?_
    rintro lk_ ⟨left3, i4⟩ hF
    refine at_eq (s' := ⟨[(0, .psl 0 6 (a.map (cPair.enc 0))), (1, .int .i64 left3), (5, .int .i64 i4)], [], 3, 27, []⟩) rfl ?_
    replace hF : w_szPairS_L1b a (itr (w_szPairS_L1 a) lk_) left3 i4 = some q := hF
    unfold w_szPairS_L1b at hF
    generalize itr (w_szPairS_L1 a) lk_ = go5 at hF ⊢
    refine at_seq ?_
    refine at_seq ?_
    refine at_region ?_
    refine sxk 2 tabOK rfl ?_
    refine sv rfl (oc_len cPair tabOK rfl rfl rfl) rfl ?_
    refine sxk 1 tabOK rfl ?_
    refine aops_nil ?_
    refine ct_if hF rfl (fun hc hF => ?_) (fun hc hF => ?_)
    · refine at_skip ?_
      refine at_seq ?_
      refine at_block ?_
      refine at_seq ?_
      refine at_region ?_
      refine sxk 2 tabOK rfl ?_
      obtain ⟨x6, hn_x6, hF⟩ := bnd_some hF
      refine sv rfl (oc_addr cPair hn_x6 tabOK rfl rfl rfl rfl) rfl ?_
      refine sxk 2 tabOK rfl ?_
      obtain ⟨x7, hx7, hF⟩ := bnd_some hF
      refine call_eq (w_szPair_ok x6 left3 x7 hx7) rfl ((rlL_cons (cPair.rl_agg (l := 0) (l' := 0) _ x6 rfl) (rlL_cons (rfl) rlL_nil))) rfl rfl ?_
      refine sxk 1 tabOK rfl ?_
      refine aops_nil ?_
      refine at_seq ?_
      refine at_keep [0, 1, 5] rfl ?_
      refine at_region ?_
      refine sxk 2 tabOK rfl ?_
      refine aops_nil ?_
      refine ct_if hF rfl (fun hc hF => ?_) (fun hc hF => ?_)
      · refine at_seq ?_
        refine at_region ?_
        refine sxk 1 tabOK rfl ?_
        refine aops_nil ?_
        refine at_ret ?_
        refine bk_r ?_
        refine tk_r ?_
        refine ll_r ?_
        refine bk_r ?_
        refine tk_r ?_
        obtain rfl := Option.some.inj hF
        refine ret_le rfl ?_
        exact (vle_refl _)
      · refine at_skip ?_
        refine bk_n ?_
        refine at_region ?_
        refine sxk 1 tabOK rfl ?_
        obtain ⟨hb, hF⟩ := chk_some hF
        refine s_add tabOK rfl rfl rfl hb rfl ?_
        refine sxk 1 tabOK rfl ?_
        refine aops_nil ?_
        exact arr_loop ⟨(x7, (i4 + 1)), hF, (le_down (down_all (ee_cons rfl rfl (cPair.ok_psl _ rfl) (ee_cons rfl rfl rfl (ee_cons rfl rfl rfl ee_nil))) he_nil rfl rfl rfl rfl))⟩
    · refine at_exit ?_
      refine tk_x ?_
      refine ll_x ?_
      refine bk_hit ?_
      refine at_seq ?_
      refine at_region ?_
      refine sxk 2 tabOK rfl ?_
      refine aops_nil ?_
      refine at_ret ?_
      obtain rfl := Option.some.inj hF
      refine ret_le rfl ?_
      exact (vle_refl _)

theorem w_toValue_ok (a : PVal) (q : PVal) (hF : w_toValue a = some q) : FC Tryd.prog 11 [.agg (cVal.row 0 a)] [] 3 (fun x _ => x = .agg (cVal.row 1 q)) := by
  refine FC.of_le ?_
  refine fc_body tabOK Tryd.func11 rfl Tryd.ntmps11 rfl rfl rfl ?_
  unfold w_toValue at hF
  refine at_seq ?_
  refine at_region ?_
  refine sxk 2 tabOK rfl ?_
  refine aops_nil ?_
  refine at_seq ?_
  refine at_region ?_
  refine sxk 1 tabOK rfl ?_
  refine aops_nil ?_
  refine at_seq ?_
  refine at_region ?_
  refine sxk 4 tabOK rfl ?_
  refine aops_nil ?_
  refine at_seq ?_
  refine at_region ?_
  refine sxk 4 tabOK rfl ?_
  refine aops_nil ?_
  refine at_seq ?_
  refine at_keep [1, 2, 3] rfl ?_
  refine at_region ?_
  refine sxk 4 tabOK rfl ?_
  refine aops_nil ?_
  refine at_seq ?_
  refine at_region ?_
  refine sxk 2 tabOK rfl ?_
  refine aops_nil ?_
  refine at_ret ?_
  obtain rfl := Option.some.inj hF
  refine ret_le rfl ?_
  exact (vle_refl _)

theorem w_toPair_ok (a : PPair) (q : PPair) (hF : w_toPair a = some q) : FC Tryd.prog 24 [.agg (cPair.row 0 a)] [] 3 (fun x _ => x = .agg (cPair.row 1 q)) := by
  refine FC.of_le ?_
  refine fc_body tabOK Tryd.func24 rfl Tryd.ntmps24 rfl rfl rfl ?_
  unfold w_toPair at hF
  refine at_seq ?_
  refine at_region ?_
  refine sxk 2 tabOK rfl ?_
  refine aops_nil ?_
  refine at_seq ?_
  refine at_region ?_
  refine sxk 1 tabOK rfl ?_
  refine aops_nil ?_
  refine at_seq ?_
  refine at_region ?_
  refine sxk 2 tabOK rfl ?_
  obtain ⟨x2, hx2, hF⟩ := bnd_some hF
  refine call_eq (w_toValue_ok a.h x2 hx2) rfl ((rlL_cons (cVal.rl_agg (l := 0) (l' := 0) _ a.h rfl) rlL_nil)) (cVal.rl_agg (l := 1) (l' := 1) _ x2 rfl) rfl ?_
  refine sxk 2 tabOK rfl ?_
  refine aops_nil ?_
  refine at_seq ?_
  refine at_region ?_
  refine sxk 2 tabOK rfl ?_
  obtain ⟨x3, hx3, hF⟩ := bnd_some hF
  refine call_eq (w_toValue_ok a.t x3 hx3) rfl ((rlL_cons (cVal.rl_agg (l := 0) (l' := 0) _ a.t rfl) rlL_nil)) (cVal.rl_agg (l := 1) (l' := 1) _ x3 rfl) rfl ?_
  refine sxk 2 tabOK rfl ?_
  refine aops_nil ?_
  refine at_seq ?_
  refine at_keep [2, 3] rfl ?_
  refine at_region ?_
  refine sxk 2 tabOK rfl ?_
  refine aops_nil ?_
  refine at_ret ?_
  obtain rfl := Option.some.inj hF
  refine ret_le rfl ?_
  exact (vle_refl _)

theorem w_toPairS_ok (a : List PPair) (q : List PPair) (hF : w_toPairS a = some q) : FC Tryd.prog 12 [.psl 0 6 (a.map (cPair.enc 0))] [] 3 (fun x _ => x = .psl 1 6 (q.map (cPair.enc 1))) := by
  refine FC.of_le ?_
  refine fc_body tabOK Tryd.func12 rfl Tryd.ntmps12 rfl rfl rfl ?_
  unfold w_toPairS at hF
  refine at_seq ?_
  refine at_region ?_
  refine sxk 1 tabOK rfl ?_
  refine aops_nil ?_
  refine at_seq ?_
  refine at_region ?_
  refine sxk 1 tabOK rfl ?_
  refine sv rfl (oc_len cPair tabOK rfl rfl rfl) rfl ?_
  obtain ⟨hb, hF⟩ := chk_some hF
  refine sc_make cPair (l := 0) (v := ((PPair.mk (PVal.mk 0 0 ([] : List UInt8)) (PVal.mk 0 0 ([] : List UInt8))) : PPair)) hb tabOK rfl rfl rfl rfl (vleL_refl _) rfl rfl rfl rfl ?_
  refine sxk 1 tabOK rfl ?_
  refine aops_nil ?_
  refine at_seq ?_
  refine at_seq ?_
  refine at_region ?_
  refine sxk 1 tabOK rfl ?_
  refine aops_nil ?_
  refine at_block ?_
  refine cl_loop (σ := Int × List PPair) (fun v => match v with | (i2, out3) => ⟨[(0, .psl 0 6 (a.map (cPair.enc 0))), (3, .hsl 3 0 out3.length), (4, .int .i64 i2)], [(3, ⟨6, out3.map (cPair.enc 0)⟩)], 4, 23, []⟩) (w_toPairS_L1 a) LF (0, (List.replicate (a.length : Int).toNat ((PPair.mk (PVal.mk 0 0 ([] : List UInt8)) (PVal.mk 0 0 ([] : List UInt8))) : PPair))) hF (le_down (down_all (ee_cons rfl rfl (cPair.ok_psl _ rfl) (ee_cons rfl rfl (Nat.le_of_ble_eq_true rfl) (ee_cons rfl rfl rfl ee_nil))) (he_cons rfl rfl rfl (cPair.rows_ok _ rfl) he_nil) rfl rfl rfl rfl)) ?_
  rintro lk_ ⟨i2, out3⟩ hF
  refine at_eq (s' := ⟨[(0, .psl 0 6 (a.map (cPair.enc 0))), (3, .hsl 3 0 out3.length), (4, .int .i64 i2)], [(3, ⟨6, out3.map (cPair.enc 0)⟩)], 4, 23, []⟩) rfl ?_
  replace hF : w_toPairS_L1b a (itr (w_toPairS_L1 a) lk_) i2 out3 = some q := hF
  unfold w_toPairS_L1b at hF
  generalize itr (w_toPairS_L1 a) lk_ = go4 at hF ⊢
  refine at_seq ?_
  refine at_seq ?_
  refine at_region ?_
  refine sxk 2 tabOK rfl ?_
  refine sv rfl (oc_len cPair tabOK rfl rfl rfl) rfl ?_
  refine sxk 1 tabOK rfl ?_
  refine aops_nil ?_
  refine ct_if hF rfl (fun hc hF => ?_) (fun hc hF => ?_)
  · refine at_skip ?_
    refine at_seq ?_
    refine at_block ?_
    refine at_region ?_
    refine sxk 4 tabOK rfl ?_
    obtain ⟨x5, hn_x5, hF⟩ := bnd_some hF
    refine sv rfl (oc_addr cPair hn_x5 tabOK rfl rfl rfl rfl) rfl ?_
    refine sxk 1 tabOK rfl ?_
    obtain ⟨x6, hx6, hF⟩ := bnd_some hF
    refine call_eq (w_toPair_ok x5 x6 hx6) rfl ((rlL_cons (cPair.rl_agg (l := 0) (l' := 0) _ x5 rfl) rlL_nil)) (cPair.rl_agg (l := 1) (l' := 1) _ x6 rfl) rfl ?_
    obtain ⟨x7, hn_x7, hF⟩ := bnd_some hF
    refine sv rfl (oc_haddr cPair hn_x7 tabOK rfl rfl rfl rfl) rfl ?_
    refine sc_store cPair (v' := x6) hn_x7 tabOK rfl rfl rfl rfl rfl rfl rfl rfl ?_
    refine ops_le (le_slot (y := .hsl 3 0 (out3.set i2.toNat x6).length) 3 rfl (vle_eq (congrArg (V.hsl 3 0) (by simp))) rfl) ?_
    refine aops_nil ?_
    refine bk_n ?_
    refine at_keep [0, 3, 4] rfl ?_
    refine at_region ?_
    refine sxk 1 tabOK rfl ?_
    obtain ⟨hb, hF⟩ := chk_some hF
    refine s_add tabOK rfl rfl rfl hb rfl ?_
    refine sxk 1 tabOK rfl ?_
    refine aops_nil ?_
    exact arr_loop ⟨((i2 + 1), (out3.set i2.toNat x6)), hF, (le_down (down_all (ee_cons rfl rfl (cPair.ok_psl _ rfl) (ee_cons rfl rfl (Nat.le_of_ble_eq_true rfl) (ee_cons rfl rfl rfl ee_nil))) (he_cons rfl rfl rfl (cPair.rows_ok _ rfl) he_nil) rfl rfl rfl rfl))⟩
  · refine at_exit ?_
    refine tk_x ?_
    refine ll_x ?_
    refine bk_hit ?_
    refine at_seq ?_
    refine at_region ?_
    refine sxk 2 tabOK rfl ?_
    refine aops_nil ?_
    refine at_le (le_freeze 2 rfl rfl (by simp) rfl) ?_
    refine at_ret ?_
    obtain rfl := Option.some.inj hF
    refine ret_le rfl ?_
    exact (vle_refl _)

theorem w_eqValue_ok (a : PVal) (b : PVal) (q : Bool) (hF : w_eqValue a b = some q) : FC Tryd.prog 44 [.agg (cVal.row 0 a), .agg (cVal.row 0 b)] [] 3 (fun x _ => x = .bool q) := by
  refine FC.of_le ?_
  refine fc_body tabOK Tryd.func44 rfl Tryd.ntmps44 rfl rfl rfl ?_
  unfold w_eqValue at hF
  refine at_seq ?_
  refine at_region ?_
  refine sxk 3 tabOK rfl ?_
  refine aops_nil ?_
  refine at_seq ?_
  refine at_seq ?_
  refine at_region ?_
  refine sxk 5 tabOK rfl ?_
  refine aops_nil ?_
  refine ct_ifn hF rfl (fun hc hF => ?_) (fun hc hF => ?_)
  · refine at_seq ?_
    refine at_keep [] rfl ?_
    refine at_region ?_
    refine sxk 1 tabOK rfl ?_
    refine aops_nil ?_
    refine at_ret ?_
    refine tk_r ?_
    obtain rfl := Option.some.inj hF
    refine ret_le rfl ?_
    exact (vle_refl _)
  · refine at_skip ?_
    refine at_seq ?_
    refine at_seq ?_
    refine at_keep [2, 3] rfl ?_
    refine at_region ?_
    refine sxk 5 tabOK rfl ?_
    refine aops_nil ?_
    refine ct_ifn hF rfl (fun hc hF => ?_) (fun hc hF => ?_)
    · refine at_seq ?_
      refine at_keep [] rfl ?_
      refine at_region ?_
      refine sxk 1 tabOK rfl ?_
      refine aops_nil ?_
      refine at_ret ?_
      refine tk_r ?_
      obtain rfl := Option.some.inj hF
      refine ret_le rfl ?_
      exact (vle_refl _)
    · refine at_skip ?_
      refine at_seq ?_
      refine at_seq ?_
      refine at_region ?_
      refine sxk 5 tabOK rfl ?_
      refine aops_nil ?_
      refine ct_ifn hF rfl (fun hc hF => ?_) (fun hc hF => ?_)
      · refine at_seq ?_
        refine at_keep [] rfl ?_
        refine at_region ?_
        refine sxk 1 tabOK rfl ?_
        refine aops_nil ?_
        refine at_ret ?_
        refine tk_r ?_
        obtain rfl := Option.some.inj hF
        refine ret_le rfl ?_
        exact (vle_refl _)
      · refine at_skip ?_
        refine at_seq ?_
        refine at_keep [] rfl ?_
        refine at_region ?_
        refine sxk 1 tabOK rfl ?_
        refine aops_nil ?_
        refine at_ret ?_
        obtain rfl := Option.some.inj hF
        refine ret_le rfl ?_
        exact (vle_refl _)

theorem w_eqPair_ok (a : PPair) (b : PPair) (q : Bool) (hF : w_eqPair a b = some q) : FC Tryd.prog 27 [.agg (cPair.row 0 a), .agg (cPair.row 0 b)] [] 3 (fun x _ => x = .bool q) := by
  refine FC.of_le ?_
  refine fc_body tabOK Tryd.func27 rfl Tryd.ntmps27 rfl rfl rfl ?_
  unfold w_eqPair at hF
  refine at_seq ?_
  refine at_region ?_
  refine sxk 3 tabOK rfl ?_
  refine aops_nil ?_
  refine at_seq ?_
  refine at_seq ?_
  refine at_region ?_
  refine sxk 4 tabOK rfl ?_
  obtain ⟨x3, hx3, hF⟩ := bnd_some hF
  refine call_eq (w_eqValue_ok a.h b.h x3 hx3) rfl ((rlL_cons (cVal.rl_agg (l := 0) (l' := 0) _ a.h rfl) (rlL_cons (cVal.rl_agg (l := 0) (l' := 0) _ b.h rfl) rlL_nil))) rfl rfl ?_
  refine sxk 1 tabOK rfl ?_
  refine aops_nil ?_
  refine ct_bn hF rfl (fun hc hF => ?_) (fun hc hF => ?_)
  · refine at_seq ?_
    refine at_keep [] rfl ?_
    refine at_region ?_
    refine sxk 1 tabOK rfl ?_
    refine aops_nil ?_
    refine at_ret ?_
    refine tk_r ?_
    obtain rfl := Option.some.inj hF
    refine ret_le rfl ?_
    exact (vle_refl _)
  · refine at_skip ?_
    refine at_seq ?_
    refine at_seq ?_
    refine at_keep [2, 3] rfl ?_
    refine at_region ?_
    refine sxk 4 tabOK rfl ?_
    obtain ⟨x4, hx4, hF⟩ := bnd_some hF
    refine call_eq (w_eqValue_ok a.t b.t x4 hx4) rfl ((rlL_cons (cVal.rl_agg (l := 0) (l' := 0) _ a.t rfl) (rlL_cons (cVal.rl_agg (l := 0) (l' := 0) _ b.t rfl) rlL_nil))) rfl rfl ?_
    refine sxk 1 tabOK rfl ?_
    refine aops_nil ?_
    refine ct_bn hF rfl (fun hc hF => ?_) (fun hc hF => ?_)
    · refine at_seq ?_
      refine at_keep [] rfl ?_
      refine at_region ?_
      refine sxk 1 tabOK rfl ?_
      refine aops_nil ?_
      refine at_ret ?_
      refine tk_r ?_
      obtain rfl := Option.some.inj hF
      refine ret_le rfl ?_
      exact (vle_refl _)
    · refine at_skip ?_
      refine at_seq ?_
      refine at_keep [] rfl ?_
      refine at_region ?_
      refine sxk 1 tabOK rfl ?_
      refine aops_nil ?_
      refine at_ret ?_
      obtain rfl := Option.some.inj hF
      refine ret_le rfl ?_
      exact (vle_refl _)

theorem w_eqPairS_ok (a : List PPair) (b : List PPair) (q : Bool) (hF : w_eqPairS a b = some q) : FC Tryd.prog 14 [.psl 0 6 (a.map (cPair.enc 0)), .psl 0 6 (b.map (cPair.enc 0))] [] 3 (fun x _ => x = .bool q) := by
  refine FC.of_le ?_
  refine fc_body tabOK Tryd.func14 rfl Tryd.ntmps14 rfl rfl rfl ?_
  unfold w_eqPairS at hF
  refine at_seq ?_
  refine at_region ?_
  refine sxk 1 tabOK rfl ?_
  refine aops_nil ?_
  refine at_seq ?_
  refine at_seq ?_
  refine at_region ?_
  refine sxk 1 tabOK rfl ?_
  refine sv rfl (oc_len cPair tabOK rfl rfl rfl) rfl ?_
  refine sxk 1 tabOK rfl ?_
  refine sv rfl (oc_len cPair tabOK rfl rfl rfl) rfl ?_
  refine sxk 1 tabOK rfl ?_
  refine aops_nil ?_
  refine ct_ifn hF rfl (fun hc hF => ?_) (fun hc hF => ?_)
  · refine at_seq ?_
    refine at_keep [] rfl ?_
    refine at_region ?_
    refine sxk 1 tabOK rfl ?_
    refine aops_nil ?_
    refine at_ret ?_
    refine tk_r ?_
    obtain rfl := Option.some.inj hF
    refine ret_le rfl ?_
    exact (vle_refl _)
  · refine at_skip ?_
    refine at_seq ?_
    refine at_seq ?_
    refine at_region ?_
    refine sxk 1 tabOK rfl ?_
    refine aops_nil ?_
    refine at_block ?_
    refine cl_loop (σ := Int) (fun i3 => ⟨[(0, .psl 0 6 (a.map (cPair.enc 0))), (1, .psl 0 6 (b.map (cPair.enc 0))), (5, .int .i64 i3)], [], 3, 27, []⟩) (w_eqPairS_L1 a b) LF 0 hF (le_down (down_all (ee_cons rfl rfl (cPair.ok_psl _ rfl) (ee_cons rfl rfl (cPair.ok_psl _ rfl) (ee_cons rfl rfl rfl ee_nil))) he_nil rfl rfl rfl rfl)) ?_
    rintro lk_ i3 hF
    refine at_eq (s' := ⟨[(0, .psl 0 6 (a.map (cPair.enc 0))), (1, .psl 0 6 (b.map (cPair.enc 0))), (5, .int .i64 i3)], [], 3, 27, []⟩) rfl ?_
    replace hF : w_eqPairS_L1b a b (itr (w_eqPairS_L1 a b) lk_) i3 = some q := hF
    unfold w_eqPairS_L1b at hF
    generalize itr (w_eqPairS_L1 a b) lk_ = go4 at hF ⊢
    refine at_seq ?_
    refine at_seq ?_
    refine at_region ?_
    refine sxk 2 tabOK rfl ?_
    refine sv rfl (oc_len cPair tabOK rfl rfl rfl) rfl ?_
    refine sxk 1 tabOK rfl ?_
    refine aops_nil ?_
    refine ct_if hF rfl (fun hc hF => ?_) (fun hc hF => ?_)
    · refine at_skip ?_
      refine at_seq ?_
      refine at_block ?_
      refine at_seq ?_
      refine at_drawnM (id := 6) 8 (by kernel_rfl) (by kernel_rfl) ?_
      refine nx tabOK rfl ?_
      refine nx tabOK rfl ?_
      obtain ⟨x5, hn_x5, hF⟩ := bnd_some hF
      refine nv rfl (oc_addr cPair hn_x5 tabOK rfl rfl rfl rfl) rfl ?_
      refine nx tabOK rfl ?_
      refine nx tabOK rfl ?_
      refine nx tabOK rfl ?_
      obtain ⟨x6, hn_x6, hF⟩ := bnd_some hF
      refine nv rfl (oc_addr cPair hn_x6 tabOK rfl rfl rfl rfl) rfl ?_
      refine nx tabOK rfl ?_
      refine dn_nil rfl ?_
      obtain ⟨x7, hx7, hF⟩ := bnd_some hF
      refine call_eq (w_eqPair_ok x5 x6 x7 hx7) rfl ((rlL_cons (cPair.rl_agg (l := 0) (l' := 0) _ x5 rfl) (rlL_cons (cPair.rl_agg (l := 0) (l' := 0) _ x6 rfl) rlL_nil))) rfl rfl ?_
      refine sxk 1 tabOK rfl ?_
      refine aops_nil ?_
      refine ct_bn hF rfl (fun hc hF => ?_) (fun hc hF => ?_)
      · refine at_seq ?_
        refine at_keep [] rfl ?_
        refine at_region ?_
        refine sxk 1 tabOK rfl ?_
        refine aops_nil ?_
        refine at_ret ?_
        refine bk_r ?_
        refine tk_r ?_
        refine ll_r ?_
        refine bk_r ?_
        refine tk_r ?_
        obtain rfl := Option.some.inj hF
        refine ret_le rfl ?_
        exact (vle_refl _)
      · refine at_skip ?_
        refine bk_n ?_
        refine at_keep [0, 1, 5] rfl ?_
        refine at_region ?_
        refine sxk 1 tabOK rfl ?_
        obtain ⟨hb, hF⟩ := chk_some hF
        refine s_add tabOK rfl rfl rfl hb rfl ?_
        refine sxk 1 tabOK rfl ?_
        refine aops_nil ?_
        exact arr_loop ⟨(i3 + 1), hF, (le_down (down_all (ee_cons rfl rfl (cPair.ok_psl _ rfl) (ee_cons rfl rfl (cPair.ok_psl _ rfl) (ee_cons rfl rfl rfl ee_nil))) he_nil rfl rfl rfl rfl))⟩
    · refine at_exit ?_
      refine tk_x ?_
      refine ll_x ?_
      refine bk_hit ?_
      refine at_seq ?_
      refine at_keep [] rfl ?_
      refine at_region ?_
      refine sxk 1 tabOK rfl ?_
      refine aops_nil ?_
      refine at_ret ?_
      obtain rfl := Option.some.inj hF
      refine ret_le rfl ?_
      exact (vle_refl _)

theorem w_FnExactFormatValue_ok (aV : PVal) (aPairs : List PPair) (q : Bool) (hF : w_FnExactFormatValue aV aPairs = some q) : FC Tryd.prog 4 [.agg (cVal.row 0 aV), .psl 0 6 (aPairs.map (cPair.enc 0))] [] 3 (fun x _ => x = .bool q) := by
  refine FC.of_le ?_
  refine fc_body tabOK Tryd.func4 rfl Tryd.ntmps4 rfl rfl rfl ?_
  unfold w_FnExactFormatValue at hF
  refine at_seq ?_
  refine at_region ?_
  refine sxk 2 tabOK rfl ?_
  refine aops_nil ?_
  refine at_seq ?_
  refine at_region ?_
  refine sxk 1 tabOK rfl ?_
  refine aops_nil ?_
  refine at_seq ?_
  refine at_region ?_
  refine sxk 2 tabOK rfl ?_
  obtain ⟨x3, hx3, hF⟩ := bnd_some hF
  refine call_eq (w_szValue_ok aV 1048576 x3 hx3) rfl ((rlL_cons (cVal.rl_agg (l := 0) (l' := 0) _ aV rfl) (rlL_cons (rfl) rlL_nil))) rfl rfl ?_
  refine sxk 1 tabOK rfl ?_
  refine aops_nil ?_
  refine at_seq ?_
  refine at_seq ?_
  refine at_region ?_
  refine sxk 2 tabOK rfl ?_
  refine aops_nil ?_
  refine ct_if hF rfl (fun hc hF => ?_) (fun hc hF => ?_)
  · refine at_seq ?_
    refine at_keep [] rfl ?_
    refine at_region ?_
    refine sxk 1 tabOK rfl ?_
    refine aops_nil ?_
    refine at_ret ?_
    refine tk_r ?_
    obtain rfl := Option.some.inj hF
    refine ret_le rfl ?_
    exact (vle_refl _)
  · refine at_skip ?_
    refine at_seq ?_
    refine at_keep [1, 2, 5] rfl ?_
    refine at_region ?_
    refine sxk 2 tabOK rfl ?_
    obtain ⟨x4, hx4, hF⟩ := bnd_some hF
    refine call_eq (w_szPairS_ok aPairs x3 x4 hx4) rfl ((rlL_cons (cPair.rl_psl (l := 0) (l' := 0) _ aPairs rfl) (rlL_cons (rfl) rlL_nil))) rfl rfl ?_
    refine sxk 1 tabOK rfl ?_
    refine aops_nil ?_
    refine at_seq ?_
    refine at_seq ?_
    refine at_region ?_
    refine sxk 2 tabOK rfl ?_
    refine aops_nil ?_
    refine ct_if hF rfl (fun hc hF => ?_) (fun hc hF => ?_)
    · refine at_seq ?_
      refine at_keep [] rfl ?_
      refine at_region ?_
      refine sxk 1 tabOK rfl ?_
      refine aops_nil ?_
      refine at_ret ?_
      refine tk_r ?_
      obtain rfl := Option.some.inj hF
      refine ret_le rfl ?_
      exact (vle_refl _)
    · refine at_skip ?_
      refine at_seq ?_
      refine at_region ?_
      refine sxk 1 tabOK rfl ?_
      obtain ⟨x5, hx5, hF⟩ := bnd_some hF
      refine call_eq (w_toValue_ok aV x5 hx5) rfl ((rlL_cons (cVal.rl_agg (l := 0) (l' := 0) _ aV rfl) rlL_nil)) (cVal.rl_agg (l := 1) (l' := 1) _ x5 rfl) rfl ?_
      refine sxk 1 tabOK rfl ?_
      obtain ⟨x6, hx6, hF⟩ := bnd_some hF
      refine call_eq (w_toPairS_ok aPairs x6 hx6) rfl ((rlL_cons (cPair.rl_psl (l := 0) (l' := 0) _ aPairs rfl) rlL_nil)) (cPair.rl_psl (l := 1) (l' := 1) _ x6 rfl) rfl ?_
      obtain ⟨x7, hx7, hF⟩ := bnd_some hF
      refine call_eq (s_FormatValue_ok x5 x6 x7 hx7) rfl ((rlL_cons (cVal.rl_agg (l := 1) (l' := 0) _ x5 rfl) (rlL_cons (cPair.rl_psl (l := 1) (l' := 0) _ x6 rfl) rlL_nil))) rfl rfl ?_
      refine sxk 1 tabOK rfl ?_
      refine aops_nil ?_
      refine at_seq ?_
      refine at_keep [1, 2, 6] rfl ?_
      refine at_region ?_
      refine sxk 1 tabOK rfl ?_
      obtain ⟨x8, hx8, hF⟩ := bnd_some hF
      refine call_eq (w_toPairS_ok aPairs x8 hx8) rfl ((rlL_cons (cPair.rl_psl (l := 0) (l' := 0) _ aPairs rfl) rlL_nil)) (cPair.rl_psl (l := 1) (l' := 1) _ x8 rfl) rfl ?_
      refine sxk 1 tabOK rfl ?_
      refine aops_nil ?_
      refine at_seq ?_
      refine at_region ?_
      refine sxk 1 tabOK rfl ?_
      obtain ⟨x9, hx9, hF⟩ := bnd_some hF
      refine call_eq (w_toValue_ok aV x9 hx9) rfl ((rlL_cons (cVal.rl_agg (l := 0) (l' := 0) _ aV rfl) rlL_nil)) (cVal.rl_agg (l := 1) (l' := 1) _ x9 rfl) rfl ?_
      refine sxk 1 tabOK rfl ?_
      obtain ⟨x10, hx10, hF⟩ := bnd_some hF
      refine call_eq (i_FormatValue_ok x9 x8 x10 hx10) rfl ((rlL_cons (cVal.rl_agg (l := 1) (l' := 0) _ x9 rfl) (rlL_cons (cPair.rl_psl (l := 1) (l' := 0) _ x8 rfl) rlL_nil))) rfl rfl ?_
      refine sxk 1 tabOK rfl ?_
      refine aops_nil ?_
      refine at_seq ?_
      refine at_seq ?_
      refine at_keep [1, 6, 7, 8] rfl ?_
      refine at_region ?_
      refine sxk 3 tabOK rfl ?_
      refine aops_nil ?_
      refine ct_ifn hF rfl (fun hc hF => ?_) (fun hc hF => ?_)
      · refine at_seq ?_
        refine at_keep [] rfl ?_
        refine at_region ?_
        refine sxk 1 tabOK rfl ?_
        refine aops_nil ?_
        refine at_ret ?_
        refine tk_r ?_
        obtain rfl := Option.some.inj hF
        refine ret_le rfl ?_
        exact (vle_refl _)
      · refine at_skip ?_
        refine at_seq ?_
        refine at_seq ?_
        refine at_region ?_
        refine sxk 2 tabOK rfl ?_
        obtain ⟨x11, hx11, hF⟩ := bnd_some hF
        refine call_eq (w_toPairS_ok aPairs x11 hx11) rfl ((rlL_cons (cPair.rl_psl (l := 0) (l' := 0) _ aPairs rfl) rlL_nil)) (cPair.rl_psl (l := 1) (l' := 1) _ x11 rfl) rfl ?_
        obtain ⟨x12, hx12, hF⟩ := bnd_some hF
        refine call_eq (w_eqPairS_ok x8 x11 x12 hx12) rfl ((rlL_cons (cPair.rl_psl (l := 1) (l' := 0) _ x8 rfl) (rlL_cons (cPair.rl_psl (l := 1) (l' := 0) _ x11 rfl) rlL_nil))) rfl rfl ?_
        refine sxk 1 tabOK rfl ?_
        refine aops_nil ?_
        refine ct_bn hF rfl (fun hc hF => ?_) (fun hc hF => ?_)
        · refine at_seq ?_
          refine at_keep [] rfl ?_
          refine at_region ?_
          refine sxk 1 tabOK rfl ?_
          refine aops_nil ?_
          refine at_ret ?_
          refine tk_r ?_
          obtain rfl := Option.some.inj hF
          refine ret_le rfl ?_
          exact (vle_refl _)
        · refine at_skip ?_
          refine at_seq ?_
          refine at_keep [] rfl ?_
          refine at_region ?_
          refine sxk 1 tabOK rfl ?_
          refine aops_nil ?_
          refine at_ret ?_
          obtain rfl := Option.some.inj hF
          refine ret_le rfl ?_
          exact (vle_refl _)

end Go.Proofs.YtiecdekmiabmkaaDoor
