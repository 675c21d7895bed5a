/-
  Walks, made by wip/gen: D
-/
import Derived.Test.YtiecdekmiabmkaaGpD
import Derived.Test.YtiecdekmiabmkaaGwC
set_option linter.unusedVariables false
set_option linter.unusedSimpArgs false
namespace Go.Proofs.Ytiecdekmiabmkaa
open Go.Abs
attribute [local irreducible] AT AOps FC DR DN
set_option maxRecDepth 10000
set_option maxHeartbeats 4000000

theorem w_szValue_ok (a : PVal) (left : Int) (q : Int) (hF : w_szValue a left = some q) : FC Try.prog 19 [.agg (cVal.row 0 a), .int .i64 left] [] 3 (fun x _ => x = .int .i64 q) := by
  refine FC.of_le ?_
  refine fc_body tabOK Try.func19 rfl Try.ntmps19 rfl rfl rfl ?_
  unfold w_szValue at hF
  refine at_seq ?_
  refine at_region ?_
  refine sxk 2 tabOK rfl ?_
  refine aops_nil ?_
  refine at_seq ?_
  refine at_region ?_
  refine sxk 4 tabOK rfl ?_
  obtain ⟨hb, hF⟩ := chk_some hF
  refine s_sub tabOK rfl rfl rfl hb rfl ?_
  refine sxk 1 tabOK rfl ?_
  refine aops_nil ?_
  refine at_seq ?_
  refine at_seq ?_
  refine at_keep [1] rfl ?_
  refine at_region ?_
  refine sxk 2 tabOK rfl ?_
  refine aops_nil ?_
  refine ct_if hF rfl (fun hc hF => ?_) (fun hc hF => ?_)
  · refine at_seq ?_
    refine at_region ?_
    refine sxk 1 tabOK rfl ?_
    refine aops_nil ?_
    refine at_ret ?_
    refine tk_r ?_
    obtain rfl := Option.some.inj hF
    refine ret_le rfl ?_
    exact (vle_refl _)
  · refine at_skip ?_
    refine at_seq ?_
    refine at_region ?_
    refine sxk 2 tabOK rfl ?_
    refine aops_nil ?_
    refine at_ret ?_
    obtain rfl := Option.some.inj hF
    refine ret_le rfl ?_
    exact (vle_refl _)

theorem w_szPair_ok (a : PPair) (left : Int) (q : Int) (hF : w_szPair a left = some q) : FC Try.prog 58 [.agg (cPair.row 0 a), .int .i64 left] [] 3 (fun x _ => x = .int .i64 q) := by
  refine FC.of_le ?_
  refine fc_body tabOK Try.func58 rfl Try.ntmps58 rfl rfl rfl ?_
  unfold w_szPair at hF
  refine at_seq ?_
  refine at_region ?_
  refine sxk 2 tabOK rfl ?_
  refine aops_nil ?_
  refine at_seq ?_
  refine at_region ?_
  refine sxk 3 tabOK rfl ?_
  obtain ⟨x3, hx3, hF⟩ := bnd_some hF
  refine call_eq (w_szValue_ok a.h left x3 hx3) rfl ((rlL_cons (cVal.rl_agg (l := 0) (l' := 0) _ a.h rfl) (rlL_cons (rfl) rlL_nil))) rfl rfl ?_
  refine sxk 1 tabOK rfl ?_
  refine aops_nil ?_
  refine at_seq ?_
  refine at_seq ?_
  refine at_region ?_
  refine sxk 2 tabOK rfl ?_
  refine aops_nil ?_
  refine ct_if hF rfl (fun hc hF => ?_) (fun hc hF => ?_)
  · refine at_seq ?_
    refine at_keep [] rfl ?_
    refine at_region ?_
    refine sxk 1 tabOK rfl ?_
    refine aops_nil ?_
    refine at_ret ?_
    refine tk_r ?_
    obtain rfl := Option.some.inj hF
    refine ret_le rfl ?_
    exact (vle_refl _)
  · refine at_skip ?_
    refine at_seq ?_
    refine at_keep [1, 2] rfl ?_
    refine at_region ?_
    refine sxk 3 tabOK rfl ?_
    obtain ⟨x4, hx4, hF⟩ := bnd_some hF
    refine call_eq (w_szValue_ok a.t x3 x4 hx4) rfl ((rlL_cons (cVal.rl_agg (l := 0) (l' := 0) _ a.t rfl) (rlL_cons (rfl) rlL_nil))) rfl rfl ?_
    refine sxk 1 tabOK rfl ?_
    refine aops_nil ?_
    refine at_seq ?_
    refine at_seq ?_
    refine at_region ?_
    refine sxk 2 tabOK rfl ?_
    refine aops_nil ?_
    refine ct_if hF rfl (fun hc hF => ?_) (fun hc hF => ?_)
    · refine at_seq ?_
      refine at_keep [] rfl ?_
      refine at_region ?_
      refine sxk 1 tabOK rfl ?_
      refine aops_nil ?_
      refine at_ret ?_
      refine tk_r ?_
      obtain rfl := Option.some.inj hF
      refine ret_le rfl ?_
      exact (vle_refl _)
    · refine at_skip ?_
      refine at_seq ?_
      refine at_keep [1] rfl ?_
      refine at_region ?_
      refine sxk 2 tabOK rfl ?_
      refine aops_nil ?_
      refine at_ret ?_
      obtain rfl := Option.some.inj hF
      refine ret_le rfl ?_
      exact (vle_refl _)

theorem w_szPairS_ok (a : List PPair) (left : Int) (q : Int) (hF : w_szPairS a left = some q) : FC Try.prog 14 [.psl 0 6 (a.map (cPair.enc 0)), .int .i64 left] [] 3 (fun x _ => x = .int .i64 q) := by
  refine FC.of_le ?_
  refine fc_body tabOK Try.func14 rfl Try.ntmps14 rfl rfl rfl ?_
  unfold w_szPairS at hF
  refine at_seq ?_
  refine at_region ?_
  refine sxk 1 tabOK rfl ?_
  refine aops_nil ?_
  refine at_seq ?_
  refine at_region ?_
  refine sxk 2 tabOK rfl ?_
  refine sv rfl (oc_len cPair tabOK rfl rfl rfl) rfl ?_
  obtain ⟨hb, hF⟩ := chk_some hF
  refine s_sub tabOK rfl rfl rfl hb rfl ?_
  refine sxk 1 tabOK rfl ?_
  refine aops_nil ?_
  refine at_seq ?_
  refine at_seq ?_
  refine at_region ?_
  refine sxk 2 tabOK rfl ?_
  refine aops_nil ?_
  refine ct_if hF rfl (fun hc hF => ?_) (fun hc hF => ?_)
  · refine at_seq ?_
    refine at_keep [] rfl ?_
    refine at_region ?_
    refine sxk 1 tabOK rfl ?_
    refine aops_nil ?_
    refine at_ret ?_
    refine tk_r ?_
    obtain rfl := Option.some.inj hF
    refine ret_le rfl ?_
    exact (vle_refl _)
  · refine at_skip ?_
    refine at_seq ?_
    refine at_seq ?_
    refine at_keep [0, 1] rfl ?_
    refine at_region ?_
    refine sxk 1 tabOK rfl ?_
    refine aops_nil ?_
    refine at_block ?_
    refine cl_loop (σ := Int × Int) (fun v => match v with | (left3, i4) => ⟨[(0, .psl 0 6 (a.map (cPair.enc 0))), (1, .int .i64 left3), (5, .int .i64 i4)], [], 3, 27, []⟩) (w_szPairS_L1 a) LF ((left - (a.length : Int)), 0) hF (le_down (down_all (ee_cons rfl rfl (cPair.ok_psl _ rfl) (ee_cons rfl rfl rfl (ee_cons rfl rfl rfl ee_nil))) he_nil rfl rfl rfl rfl)) ?_
    rintro lk_ ⟨left3, i4⟩ hF
    refine at_eq (s' := ⟨[(0, .psl 0 6 (a.map (cPair.enc 0))), (1, .int .i64 left3), (5, .int .i64 i4)], [], 3, 27, []⟩) rfl ?_
    replace hF : w_szPairS_L1b a (itr (w_szPairS_L1 a) lk_) left3 i4 = some q := hF
    unfold w_szPairS_L1b at hF
    generalize itr (w_szPairS_L1 a) lk_ = go5 at hF ⊢
    refine at_seq ?_
    refine at_seq ?_
    refine at_region ?_
    refine sxk 2 tabOK rfl ?_
    refine sv rfl (oc_len cPair tabOK rfl rfl rfl) rfl ?_
    refine sxk 1 tabOK rfl ?_
    refine aops_nil ?_
    refine ct_if hF rfl (fun hc hF => ?_) (fun hc hF => ?_)
    · refine at_skip ?_
      refine at_seq ?_
      refine at_block ?_
      refine at_seq ?_
      refine at_region ?_
      refine sxk 2 tabOK rfl ?_
      obtain ⟨x6, hn_x6, hF⟩ := bnd_some hF
      refine sv rfl (oc_addr cPair hn_x6 tabOK rfl rfl rfl rfl) rfl ?_
      refine sxk 2 tabOK rfl ?_
      obtain ⟨x7, hx7, hF⟩ := bnd_some hF
      refine call_eq (w_szPair_ok x6 left3 x7 hx7) rfl ((rlL_cons (cPair.rl_agg (l := 0) (l' := 0) _ x6 rfl) (rlL_cons (rfl) rlL_nil))) rfl rfl ?_
      refine sxk 1 tabOK rfl ?_
      refine aops_nil ?_
      refine at_seq ?_
      refine at_keep [0, 1, 5] rfl ?_
      refine at_region ?_
      refine sxk 2 tabOK rfl ?_
      refine aops_nil ?_
      refine ct_if hF rfl (fun hc hF => ?_) (fun hc hF => ?_)
      · refine at_seq ?_
        refine at_region ?_
        refine sxk 1 tabOK rfl ?_
        refine aops_nil ?_
        refine at_ret ?_
        refine bk_r ?_
        refine tk_r ?_
        refine ll_r ?_
        refine bk_r ?_
        refine tk_r ?_
        obtain rfl := Option.some.inj hF
        refine ret_le rfl ?_
        exact (vle_refl _)
      · refine at_skip ?_
        refine bk_n ?_
        refine at_region ?_
        refine sxk 1 tabOK rfl ?_
        obtain ⟨hb, hF⟩ := chk_some hF
        refine s_add tabOK rfl rfl rfl hb rfl ?_
        refine sxk 1 tabOK rfl ?_
        refine aops_nil ?_
        exact arr_loop ⟨(x7, (i4 + 1)), hF, (le_down (down_all (ee_cons rfl rfl (cPair.ok_psl _ rfl) (ee_cons rfl rfl rfl (ee_cons rfl rfl rfl ee_nil))) he_nil rfl rfl rfl rfl))⟩
    · refine at_exit ?_
      refine tk_x ?_
      refine ll_x ?_
      refine bk_hit ?_
      refine at_seq ?_
      refine at_region ?_
      refine sxk 2 tabOK rfl ?_
      refine aops_nil ?_
      refine at_ret ?_
      obtain rfl := Option.some.inj hF
      refine ret_le rfl ?_
      exact (vle_refl _)

theorem w_szIntS_ok (a : List Int) (left : Int) (q : Int) (hF : w_szIntS a left = some q) : FC Try.prog 88 [.psl 0 1 (a.map (cInt.enc 0)), .int .i64 left] [] 3 (fun x _ => x = .int .i64 q) := by
  refine FC.of_le ?_
  refine fc_body tabOK Try.func88 rfl Try.ntmps88 rfl rfl rfl ?_
  unfold w_szIntS at hF
  refine at_seq ?_
  refine at_region ?_
  refine sxk 1 tabOK rfl ?_
  refine aops_nil ?_
  refine at_seq ?_
  refine at_region ?_
  refine sxk 2 tabOK rfl ?_
  refine sv rfl (oc_len cInt tabOK rfl rfl rfl) rfl ?_
  obtain ⟨hb, hF⟩ := chk_some hF
  refine s_sub tabOK rfl rfl rfl hb rfl ?_
  refine sxk 1 tabOK rfl ?_
  refine aops_nil ?_
  refine at_seq ?_
  refine at_seq ?_
  refine at_region ?_
  refine sxk 2 tabOK rfl ?_
  refine aops_nil ?_
  refine ct_if hF rfl (fun hc hF => ?_) (fun hc hF => ?_)
  · refine at_seq ?_
    refine at_keep [] rfl ?_
    refine at_region ?_
    refine sxk 1 tabOK rfl ?_
    refine aops_nil ?_
    refine at_ret ?_
    refine tk_r ?_
    obtain rfl := Option.some.inj hF
    refine ret_le rfl ?_
    exact (vle_refl _)
  · refine at_skip ?_
    refine at_seq ?_
    refine at_keep [1] rfl ?_
    refine at_region ?_
    refine sxk 2 tabOK rfl ?_
    refine aops_nil ?_
    refine at_ret ?_
    obtain rfl := Option.some.inj hF
    refine ret_le rfl ?_
    exact (vle_refl _)

theorem w_szDatum_bok (w_szDatum : PDat → Int → Option Int) (w_szDatumS : List PDat → Int → Option Int) (h_w_szDatum : ∀ (a : PDat) (left : Int) (q : Int), w_szDatum a left = some q → FC Try.prog 33 [.agg (cDat.row 0 a), .int .i64 left] [] 3 (fun x _ => x = .int .i64 q)) (h_w_szDatumS : ∀ (a : List PDat) (left : Int) (q : Int), w_szDatumS a left = some q → FC Try.prog 69 [.psl 0 4 (a.map (cDat.enc 0)), .int .i64 left] [] 3 (fun x _ => x = .int .i64 q)) (a : PDat) (left : Int) (q : Int) (hF : w_szDatum_b w_szDatum w_szDatumS a left = some q) : FC Try.prog 33 [.agg (cDat.row 0 a), .int .i64 left] [] 3 (fun x _ => x = .int .i64 q) := by
  refine FC.of_le ?_
  refine fc_body tabOK Try.func33 rfl Try.ntmps33 rfl rfl rfl ?_
  unfold w_szDatum_b at hF
  refine at_seq ?_
  refine at_region ?_
  refine sxk 2 tabOK rfl ?_
  refine aops_nil ?_
  refine at_seq ?_
  refine at_region ?_
  refine sxk 4 tabOK rfl ?_
  obtain ⟨hb, hF⟩ := chk_some hF
  refine s_sub tabOK rfl rfl rfl hb rfl ?_
  refine sxk 1 tabOK rfl ?_
  refine aops_nil ?_
  refine at_seq ?_
  refine at_seq ?_
  refine at_keep [1, 2] rfl ?_
  refine at_region ?_
  refine sxk 2 tabOK rfl ?_
  refine aops_nil ?_
  refine ct_if hF rfl (fun hc hF => ?_) (fun hc hF => ?_)
  · refine at_seq ?_
    refine at_region ?_
    refine sxk 1 tabOK rfl ?_
    refine aops_nil ?_
    refine at_ret ?_
    refine tk_r ?_
    obtain rfl := Option.some.inj hF
    refine ret_le rfl ?_
    exact (vle_refl _)
  · refine at_skip ?_
    refine at_seq ?_
    refine at_region ?_
    refine sxk 3 tabOK rfl ?_
    obtain ⟨x5, hx5, hF⟩ := bnd_some hF
    refine call_eq (h_w_szDatumS a.items (left - (a.text.length : Int)) x5 hx5) rfl ((rlL_cons (cDat.rl_psl (l := 0) (l' := 0) _ a.items rfl) (rlL_cons (rfl) rlL_nil))) rfl rfl ?_
    refine sxk 1 tabOK rfl ?_
    refine aops_nil ?_
    refine at_seq ?_
    refine at_seq ?_
    refine at_keep [1] rfl ?_
    refine at_region ?_
    refine sxk 2 tabOK rfl ?_
    refine aops_nil ?_
    refine ct_if hF rfl (fun hc hF => ?_) (fun hc hF => ?_)
    · refine at_seq ?_
      refine at_region ?_
      refine sxk 1 tabOK rfl ?_
      refine aops_nil ?_
      refine at_ret ?_
      refine tk_r ?_
      obtain rfl := Option.some.inj hF
      refine ret_le rfl ?_
      exact (vle_refl _)
    · refine at_skip ?_
      refine at_seq ?_
      refine at_region ?_
      refine sxk 2 tabOK rfl ?_
      refine aops_nil ?_
      refine at_ret ?_
      obtain rfl := Option.some.inj hF
      refine ret_le rfl ?_
      exact (vle_refl _)

theorem w_szDatumS_bok (w_szDatum : PDat → Int → Option Int) (w_szDatumS : List PDat → Int → Option Int) (h_w_szDatum : ∀ (a : PDat) (left : Int) (q : Int), w_szDatum a left = some q → FC Try.prog 33 [.agg (cDat.row 0 a), .int .i64 left] [] 3 (fun x _ => x = .int .i64 q)) (h_w_szDatumS : ∀ (a : List PDat) (left : Int) (q : Int), w_szDatumS a left = some q → FC Try.prog 69 [.psl 0 4 (a.map (cDat.enc 0)), .int .i64 left] [] 3 (fun x _ => x = .int .i64 q)) (a : List PDat) (left : Int) (q : Int) (hF : w_szDatumS_b w_szDatum w_szDatumS a left = some q) : FC Try.prog 69 [.psl 0 4 (a.map (cDat.enc 0)), .int .i64 left] [] 3 (fun x _ => x = .int .i64 q) := by
  refine FC.of_le ?_
  refine fc_body tabOK Try.func69 rfl Try.ntmps69 rfl rfl rfl ?_
  unfold w_szDatumS_b at hF
  refine at_seq ?_
  refine at_region ?_
  refine sxk 1 tabOK rfl ?_
  refine aops_nil ?_
  refine at_seq ?_
  refine at_region ?_
  refine sxk 2 tabOK rfl ?_
  refine sv rfl (oc_len cDat tabOK rfl rfl rfl) rfl ?_
  obtain ⟨hb, hF⟩ := chk_some hF
  refine s_sub tabOK rfl rfl rfl hb rfl ?_
  refine sxk 1 tabOK rfl ?_
  refine aops_nil ?_
  refine at_seq ?_
  refine at_seq ?_
  refine at_region ?_
  refine sxk 2 tabOK rfl ?_
  refine aops_nil ?_
  refine ct_if hF rfl (fun hc hF => ?_) (fun hc hF => ?_)
  · refine at_seq ?_
    refine at_keep [] rfl ?_
    refine at_region ?_
    refine sxk 1 tabOK rfl ?_
    refine aops_nil ?_
    refine at_ret ?_
    refine tk_r ?_
    obtain rfl := Option.some.inj hF
    refine ret_le rfl ?_
    exact (vle_refl _)
  · refine at_skip ?_
    refine at_seq ?_
    refine at_seq ?_
    refine at_keep [0, 1] rfl ?_
    refine at_region ?_
    refine sxk 1 tabOK rfl ?_
    refine aops_nil ?_
    refine at_block ?_
    refine cl_loop (σ := Int × Int) (fun v => match v with | (left5, i6) => ⟨[(0, .psl 0 4 (a.map (cDat.enc 0))), (1, .int .i64 left5), (5, .int .i64 i6)], [], 3, 27, []⟩) (w_szDatumS_L1 w_szDatum a) LF ((left - (a.length : Int)), 0) hF (le_down (down_all (ee_cons rfl rfl (cDat.ok_psl _ rfl) (ee_cons rfl rfl rfl (ee_cons rfl rfl rfl ee_nil))) he_nil rfl rfl rfl rfl)) ?_
    rintro lk_ ⟨left5, i6⟩ hF
    refine at_eq (s' := ⟨[(0, .psl 0 4 (a.map (cDat.enc 0))), (1, .int .i64 left5), (5, .int .i64 i6)], [], 3, 27, []⟩) rfl ?_
    replace hF : w_szDatumS_L1b w_szDatum a (itr (w_szDatumS_L1 w_szDatum a) lk_) left5 i6 = some q := hF
    unfold w_szDatumS_L1b at hF
    generalize itr (w_szDatumS_L1 w_szDatum a) lk_ = go7 at hF ⊢
    refine at_seq ?_
    refine at_seq ?_
    refine at_region ?_
    refine sxk 2 tabOK rfl ?_
    refine sv rfl (oc_len cDat tabOK rfl rfl rfl) rfl ?_
    refine sxk 1 tabOK rfl ?_
    refine aops_nil ?_
    refine ct_if hF rfl (fun hc hF => ?_) (fun hc hF => ?_)
    · refine at_skip ?_
      refine at_seq ?_
      refine at_block ?_
      refine at_seq ?_
      refine at_region ?_
      refine sxk 2 tabOK rfl ?_
      obtain ⟨x8, hn_x8, hF⟩ := bnd_some hF
      refine sv rfl (oc_addr cDat hn_x8 tabOK rfl rfl rfl rfl) rfl ?_
      refine sxk 2 tabOK rfl ?_
      obtain ⟨x9, hx9, hF⟩ := bnd_some hF
      refine call_eq (h_w_szDatum x8 left5 x9 hx9) rfl ((rlL_cons (cDat.rl_agg (l := 0) (l' := 0) _ x8 rfl) (rlL_cons (rfl) rlL_nil))) rfl rfl ?_
      refine sxk 1 tabOK rfl ?_
      refine aops_nil ?_
      refine at_seq ?_
      refine at_keep [0, 1, 5] rfl ?_
      refine at_region ?_
      refine sxk 2 tabOK rfl ?_
      refine aops_nil ?_
      refine ct_if hF rfl (fun hc hF => ?_) (fun hc hF => ?_)
      · refine at_seq ?_
        refine at_region ?_
        refine sxk 1 tabOK rfl ?_
        refine aops_nil ?_
        refine at_ret ?_
        refine bk_r ?_
        refine tk_r ?_
        refine ll_r ?_
        refine bk_r ?_
        refine tk_r ?_
        obtain rfl := Option.some.inj hF
        refine ret_le rfl ?_
        exact (vle_refl _)
      · refine at_skip ?_
        refine bk_n ?_
        refine at_region ?_
        refine sxk 1 tabOK rfl ?_
        obtain ⟨hb, hF⟩ := chk_some hF
        refine s_add tabOK rfl rfl rfl hb rfl ?_
        refine sxk 1 tabOK rfl ?_
        refine aops_nil ?_
        exact arr_loop ⟨(x9, (i6 + 1)), hF, (le_down (down_all (ee_cons rfl rfl (cDat.ok_psl _ rfl) (ee_cons rfl rfl rfl (ee_cons rfl rfl rfl ee_nil))) he_nil rfl rfl rfl rfl))⟩
    · refine at_exit ?_
      refine tk_x ?_
      refine ll_x ?_
      refine bk_hit ?_
      refine at_seq ?_
      refine at_region ?_
      refine sxk 2 tabOK rfl ?_
      refine aops_nil ?_
      refine at_ret ?_
      obtain rfl := Option.some.inj hF
      refine ret_le rfl ?_
      exact (vle_refl _)

theorem w_szDatum_all (n : Nat) : (∀ (a : PDat) (left : Int) (q : Int), w_szDatum n a left = some q → FC Try.prog 33 [.agg (cDat.row 0 a), .int .i64 left] [] 3 (fun x _ => x = .int .i64 q)) ∧ (∀ (a : List PDat) (left : Int) (q : Int), w_szDatumS n a left = some q → FC Try.prog 69 [.psl 0 4 (a.map (cDat.enc 0)), .int .i64 left] [] 3 (fun x _ => x = .int .i64 q)) := by
  induction n with
  | zero => exact ⟨(fun _ _ q h => by cases h), (fun _ _ q h => by cases h)⟩
  | succ n ih => exact ⟨fun a left q h => w_szDatum_bok (w_szDatum n) (w_szDatumS n) ih.1 ih.2 a left q h, fun a left q h => w_szDatumS_bok (w_szDatum n) (w_szDatumS n) ih.1 ih.2 a left q h⟩

theorem w_szDatum_ok (n : Nat) (a : PDat) (left : Int) (q : Int) (hF : w_szDatum n a left = some q) : FC Try.prog 33 [.agg (cDat.row 0 a), .int .i64 left] [] 3 (fun x _ => x = .int .i64 q) := (w_szDatum_all n).1 a left q hF

theorem w_szDatumS_ok (n : Nat) (a : List PDat) (left : Int) (q : Int) (hF : w_szDatumS n a left = some q) : FC Try.prog 69 [.psl 0 4 (a.map (cDat.enc 0)), .int .i64 left] [] 3 (fun x _ => x = .int .i64 q) := (w_szDatum_all n).2 a left q hF

theorem w_szInstr_ok (a : PInstr) (left : Int) (q : Int) (hF : w_szInstr a left = some q) : FC Try.prog 132 [.agg (cInstr.row 0 a), .int .i64 left] [] 3 (fun x _ => x = .int .i64 q) := by
  refine FC.of_le ?_
  refine fc_body tabOK Try.func132 rfl Try.ntmps132 rfl rfl rfl ?_
  unfold w_szInstr at hF
  refine at_seq ?_
  refine at_region ?_
  refine sxk 2 tabOK rfl ?_
  refine aops_nil ?_
  refine at_seq ?_
  refine at_region ?_
  refine sxk 3 tabOK rfl ?_
  obtain ⟨x3, hx3, hF⟩ := bnd_some hF
  refine call_eq (w_szDatum_ok RF a.d left x3 hx3) rfl ((rlL_cons (cDat.rl_agg (l := 0) (l' := 0) _ a.d rfl) (rlL_cons (rfl) rlL_nil))) rfl rfl ?_
  refine sxk 1 tabOK rfl ?_
  refine aops_nil ?_
  refine at_seq ?_
  refine at_seq ?_
  refine at_keep [1] rfl ?_
  refine at_region ?_
  refine sxk 2 tabOK rfl ?_
  refine aops_nil ?_
  refine ct_if hF rfl (fun hc hF => ?_) (fun hc hF => ?_)
  · refine at_seq ?_
    refine at_region ?_
    refine sxk 1 tabOK rfl ?_
    refine aops_nil ?_
    refine at_ret ?_
    refine tk_r ?_
    obtain rfl := Option.some.inj hF
    refine ret_le rfl ?_
    exact (vle_refl _)
  · refine at_skip ?_
    refine at_seq ?_
    refine at_region ?_
    refine sxk 2 tabOK rfl ?_
    refine aops_nil ?_
    refine at_ret ?_
    obtain rfl := Option.some.inj hF
    refine ret_le rfl ?_
    exact (vle_refl _)

theorem w_szInstrS_ok (a : List PInstr) (left : Int) (q : Int) (hF : w_szInstrS a left = some q) : FC Try.prog 126 [.psl 0 6 (a.map (cInstr.enc 0)), .int .i64 left] [] 3 (fun x _ => x = .int .i64 q) := by
  refine FC.of_le ?_
  refine fc_body tabOK Try.func126 rfl Try.ntmps126 rfl rfl rfl ?_
  unfold w_szInstrS at hF
  refine at_seq ?_
  refine at_region ?_
  refine sxk 1 tabOK rfl ?_
  refine aops_nil ?_
  refine at_seq ?_
  refine at_region ?_
  refine sxk 2 tabOK rfl ?_
  refine sv rfl (oc_len cInstr tabOK rfl rfl rfl) rfl ?_
  obtain ⟨hb, hF⟩ := chk_some hF
  refine s_sub tabOK rfl rfl rfl hb rfl ?_
  refine sxk 1 tabOK rfl ?_
  refine aops_nil ?_
  refine at_seq ?_
  refine at_seq ?_
  refine at_region ?_
  refine sxk 2 tabOK rfl ?_
  refine aops_nil ?_
  refine ct_if hF rfl (fun hc hF => ?_) (fun hc hF => ?_)
  · refine at_seq ?_
    refine at_keep [] rfl ?_
    refine at_region ?_
    refine sxk 1 tabOK rfl ?_
    refine aops_nil ?_
    refine at_ret ?_
    refine tk_r ?_
    obtain rfl := Option.some.inj hF
    refine ret_le rfl ?_
    exact (vle_refl _)
  · refine at_skip ?_
    refine at_seq ?_
    refine at_seq ?_
    refine at_keep [0, 1] rfl ?_
    refine at_region ?_
    refine sxk 1 tabOK rfl ?_
    refine aops_nil ?_
    refine at_block ?_
    refine cl_loop (σ := Int × Int) (fun v => match v with | (left3, i4) => ⟨[(0, .psl 0 6 (a.map (cInstr.enc 0))), (1, .int .i64 left3), (5, .int .i64 i4)], [], 3, 27, []⟩) (w_szInstrS_L1 a) LF ((left - (a.length : Int)), 0) hF (le_down (down_all (ee_cons rfl rfl (cInstr.ok_psl _ rfl) (ee_cons rfl rfl rfl (ee_cons rfl rfl rfl ee_nil))) he_nil rfl rfl rfl rfl)) ?_
    rintro lk_ ⟨left3, i4⟩ hF
    refine at_eq (s' := ⟨[(0, .psl 0 6 (a.map (cInstr.enc 0))), (1, .int .i64 left3), (5, .int .i64 i4)], [], 3, 27, []⟩) rfl ?_
    replace hF : w_szInstrS_L1b a (itr (w_szInstrS_L1 a) lk_) left3 i4 = some q := hF
    unfold w_szInstrS_L1b at hF
    generalize itr (w_szInstrS_L1 a) lk_ = go5 at hF ⊢
    refine at_seq ?_
    refine at_seq ?_
    refine at_region ?_
    refine sxk 2 tabOK rfl ?_
    refine sv rfl (oc_len cInstr tabOK rfl rfl rfl) rfl ?_
    refine sxk 1 tabOK rfl ?_
    refine aops_nil ?_
    refine ct_if hF rfl (fun hc hF => ?_) (fun hc hF => ?_)
    · refine at_skip ?_
      refine at_seq ?_
      refine at_block ?_
      refine at_seq ?_
      refine at_region ?_
      refine sxk 2 tabOK rfl ?_
      obtain ⟨x6, hn_x6, hF⟩ := bnd_some hF
      refine sv rfl (oc_addr cInstr hn_x6 tabOK rfl rfl rfl rfl) rfl ?_
      refine sxk 2 tabOK rfl ?_
      obtain ⟨x7, hx7, hF⟩ := bnd_some hF
      refine call_eq (w_szInstr_ok x6 left3 x7 hx7) rfl ((rlL_cons (cInstr.rl_agg (l := 0) (l' := 0) _ x6 rfl) (rlL_cons (rfl) rlL_nil))) rfl rfl ?_
      refine sxk 1 tabOK rfl ?_
      refine aops_nil ?_
      refine at_seq ?_
      refine at_keep [0, 1, 5] rfl ?_
      refine at_region ?_
      refine sxk 2 tabOK rfl ?_
      refine aops_nil ?_
      refine ct_if hF rfl (fun hc hF => ?_) (fun hc hF => ?_)
      · refine at_seq ?_
        refine at_region ?_
        refine sxk 1 tabOK rfl ?_
        refine aops_nil ?_
        refine at_ret ?_
        refine bk_r ?_
        refine tk_r ?_
        refine ll_r ?_
        refine bk_r ?_
        refine tk_r ?_
        obtain rfl := Option.some.inj hF
        refine ret_le rfl ?_
        exact (vle_refl _)
      · refine at_skip ?_
        refine bk_n ?_
        refine at_region ?_
        refine sxk 1 tabOK rfl ?_
        obtain ⟨hb, hF⟩ := chk_some hF
        refine s_add tabOK rfl rfl rfl hb rfl ?_
        refine sxk 1 tabOK rfl ?_
        refine aops_nil ?_
        exact arr_loop ⟨(x7, (i4 + 1)), hF, (le_down (down_all (ee_cons rfl rfl (cInstr.ok_psl _ rfl) (ee_cons rfl rfl rfl (ee_cons rfl rfl rfl ee_nil))) he_nil rfl rfl rfl rfl))⟩
    · refine at_exit ?_
      refine tk_x ?_
      refine ll_x ?_
      refine bk_hit ?_
      refine at_seq ?_
      refine at_region ?_
      refine sxk 2 tabOK rfl ?_
      refine aops_nil ?_
      refine at_ret ?_
      obtain rfl := Option.some.inj hF
      refine ret_le rfl ?_
      exact (vle_refl _)

theorem w_szCode_ok (a : PCode) (left : Int) (q : Int) (hF : w_szCode a left = some q) : FC Try.prog 103 [.agg (cCode.row 0 a), .int .i64 left] [] 3 (fun x _ => x = .int .i64 q) := by
  refine FC.of_le ?_
  refine fc_body tabOK Try.func103 rfl Try.ntmps103 rfl rfl rfl ?_
  unfold w_szCode at hF
  refine at_seq ?_
  refine at_region ?_
  refine sxk 2 tabOK rfl ?_
  refine aops_nil ?_
  refine at_seq ?_
  refine at_region ?_
  refine sxk 3 tabOK rfl ?_
  obtain ⟨x3, hx3, hF⟩ := bnd_some hF
  refine call_eq (w_szInstrS_ok a.instrs left x3 hx3) rfl ((rlL_cons (cInstr.rl_psl (l := 0) (l' := 0) _ a.instrs rfl) (rlL_cons (rfl) rlL_nil))) rfl rfl ?_
  refine sxk 1 tabOK rfl ?_
  refine aops_nil ?_
  refine at_seq ?_
  refine at_seq ?_
  refine at_keep [1] rfl ?_
  refine at_region ?_
  refine sxk 2 tabOK rfl ?_
  refine aops_nil ?_
  refine ct_if hF rfl (fun hc hF => ?_) (fun hc hF => ?_)
  · refine at_seq ?_
    refine at_region ?_
    refine sxk 1 tabOK rfl ?_
    refine aops_nil ?_
    refine at_ret ?_
    refine tk_r ?_
    obtain rfl := Option.some.inj hF
    refine ret_le rfl ?_
    exact (vle_refl _)
  · refine at_skip ?_
    refine at_seq ?_
    refine at_region ?_
    refine sxk 2 tabOK rfl ?_
    refine aops_nil ?_
    refine at_ret ?_
    obtain rfl := Option.some.inj hF
    refine ret_le rfl ?_
    exact (vle_refl _)

theorem w_szCodeS_ok (a : List PCode) (left : Int) (q : Int) (hF : w_szCodeS a left = some q) : FC Try.prog 62 [.psl 0 4 (a.map (cCode.enc 0)), .int .i64 left] [] 3 (fun x _ => x = .int .i64 q) := by
  refine FC.of_le ?_
  refine fc_body tabOK Try.func62 rfl Try.ntmps62 rfl rfl rfl ?_
  unfold w_szCodeS at hF
  refine at_seq ?_
  refine at_region ?_
  refine sxk 1 tabOK rfl ?_
  refine aops_nil ?_
  refine at_seq ?_
  refine at_region ?_
  refine sxk 2 tabOK rfl ?_
  refine sv rfl (oc_len cCode tabOK rfl rfl rfl) rfl ?_
  obtain ⟨hb, hF⟩ := chk_some hF
  refine s_sub tabOK rfl rfl rfl hb rfl ?_
  refine sxk 1 tabOK rfl ?_
  refine aops_nil ?_
  refine at_seq ?_
  refine at_seq ?_
  refine at_region ?_
  refine sxk 2 tabOK rfl ?_
  refine aops_nil ?_
  refine ct_if hF rfl (fun hc hF => ?_) (fun hc hF => ?_)
  · refine at_seq ?_
    refine at_keep [] rfl ?_
    refine at_region ?_
    refine sxk 1 tabOK rfl ?_
    refine aops_nil ?_
    refine at_ret ?_
    refine tk_r ?_
    obtain rfl := Option.some.inj hF
    refine ret_le rfl ?_
    exact (vle_refl _)
  · refine at_skip ?_
    refine at_seq ?_
    refine at_seq ?_
    refine at_keep [0, 1] rfl ?_
    refine at_region ?_
    refine sxk 1 tabOK rfl ?_
    refine aops_nil ?_
    refine at_block ?_
    refine cl_loop (σ := Int × Int) (fun v => match v with | (left3, i4) => ⟨[(0, .psl 0 4 (a.map (cCode.enc 0))), (1, .int .i64 left3), (5, .int .i64 i4)], [], 3, 27, []⟩) (w_szCodeS_L1 a) LF ((left - (a.length : Int)), 0) hF (le_down (down_all (ee_cons rfl rfl (cCode.ok_psl _ rfl) (ee_cons rfl rfl rfl (ee_cons rfl rfl rfl ee_nil))) he_nil rfl rfl rfl rfl)) ?_
    rintro lk_ ⟨left3, i4⟩ hF
    refine at_eq (s' := ⟨[(0, .psl 0 4 (a.map (cCode.enc 0))), (1, .int .i64 left3), (5, .int .i64 i4)], [], 3, 27, []⟩) rfl ?_
    replace hF : w_szCodeS_L1b a (itr (w_szCodeS_L1 a) lk_) left3 i4 = some q := hF
    unfold w_szCodeS_L1b at hF
    generalize itr (w_szCodeS_L1 a) lk_ = go5 at hF ⊢
    refine at_seq ?_
    refine at_seq ?_
    refine at_region ?_
    refine sxk 2 tabOK rfl ?_
    refine sv rfl (oc_len cCode tabOK rfl rfl rfl) rfl ?_
    refine sxk 1 tabOK rfl ?_
    refine aops_nil ?_
    refine ct_if hF rfl (fun hc hF => ?_) (fun hc hF => ?_)
    · refine at_skip ?_
      refine at_seq ?_
      refine at_block ?_
      refine at_seq ?_
      refine at_region ?_
      refine sxk 2 tabOK rfl ?_
      obtain ⟨x6, hn_x6, hF⟩ := bnd_some hF
      refine sv rfl (oc_addr cCode hn_x6 tabOK rfl rfl rfl rfl) rfl ?_
      refine sxk 2 tabOK rfl ?_
      obtain ⟨x7, hx7, hF⟩ := bnd_some hF
      refine call_eq (w_szCode_ok x6 left3 x7 hx7) rfl ((rlL_cons (cCode.rl_agg (l := 0) (l' := 0) _ x6 rfl) (rlL_cons (rfl) rlL_nil))) rfl rfl ?_
      refine sxk 1 tabOK rfl ?_
      refine aops_nil ?_
      refine at_seq ?_
      refine at_keep [0, 1, 5] rfl ?_
      refine at_region ?_
      refine sxk 2 tabOK rfl ?_
      refine aops_nil ?_
      refine ct_if hF rfl (fun hc hF => ?_) (fun hc hF => ?_)
      · refine at_seq ?_
        refine at_region ?_
        refine sxk 1 tabOK rfl ?_
        refine aops_nil ?_
        refine at_ret ?_
        refine bk_r ?_
        refine tk_r ?_
        refine ll_r ?_
        refine bk_r ?_
        refine tk_r ?_
        obtain rfl := Option.some.inj hF
        refine ret_le rfl ?_
        exact (vle_refl _)
      · refine at_skip ?_
        refine bk_n ?_
        refine at_region ?_
        refine sxk 1 tabOK rfl ?_
        obtain ⟨hb, hF⟩ := chk_some hF
        refine s_add tabOK rfl rfl rfl hb rfl ?_
        refine sxk 1 tabOK rfl ?_
        refine aops_nil ?_
        exact arr_loop ⟨(x7, (i4 + 1)), hF, (le_down (down_all (ee_cons rfl rfl (cCode.ok_psl _ rfl) (ee_cons rfl rfl rfl (ee_cons rfl rfl rfl ee_nil))) he_nil rfl rfl rfl rfl))⟩
    · refine at_exit ?_
      refine tk_x ?_
      refine ll_x ?_
      refine bk_hit ?_
      refine at_seq ?_
      refine at_region ?_
      refine sxk 2 tabOK rfl ?_
      refine aops_nil ?_
      refine at_ret ?_
      obtain rfl := Option.some.inj hF
      refine ret_le rfl ?_
      exact (vle_refl _)

theorem w_szImage_ok (a : PImage) (left : Int) (q : Int) (hF : w_szImage a left = some q) : FC Try.prog 23 [.agg (cImage.row 0 a), .int .i64 left] [] 3 (fun x _ => x = .int .i64 q) := by
  refine FC.of_le ?_
  refine fc_body tabOK Try.func23 rfl Try.ntmps23 rfl rfl rfl ?_
  unfold w_szImage at hF
  refine at_seq ?_
  refine at_region ?_
  refine sxk 2 tabOK rfl ?_
  refine aops_nil ?_
  refine at_seq ?_
  refine at_region ?_
  refine sxk 3 tabOK rfl ?_
  obtain ⟨x3, hx3, hF⟩ := bnd_some hF
  refine call_eq (w_szCodeS_ok a.codes left x3 hx3) rfl ((rlL_cons (cCode.rl_psl (l := 0) (l' := 0) _ a.codes rfl) (rlL_cons (rfl) rlL_nil))) rfl rfl ?_
  refine sxk 1 tabOK rfl ?_
  refine aops_nil ?_
  refine at_seq ?_
  refine at_seq ?_
  refine at_keep [1] rfl ?_
  refine at_region ?_
  refine sxk 2 tabOK rfl ?_
  refine aops_nil ?_
  refine ct_if hF rfl (fun hc hF => ?_) (fun hc hF => ?_)
  · refine at_seq ?_
    refine at_region ?_
    refine sxk 1 tabOK rfl ?_
    refine aops_nil ?_
    refine at_ret ?_
    refine tk_r ?_
    obtain rfl := Option.some.inj hF
    refine ret_le rfl ?_
    exact (vle_refl _)
  · refine at_skip ?_
    refine at_seq ?_
    refine at_region ?_
    refine sxk 2 tabOK rfl ?_
    refine aops_nil ?_
    refine at_ret ?_
    obtain rfl := Option.some.inj hF
    refine ret_le rfl ?_
    exact (vle_refl _)

theorem w_eqIntS_ok (a : List Int) (b : List Int) (q : Bool) (hF : w_eqIntS a b = some q) : FC Try.prog 45 [.psl 0 1 (a.map (cInt.enc 0)), .psl 0 1 (b.map (cInt.enc 0))] [] 3 (fun x _ => x = .bool q) := by
  refine FC.of_le ?_
  refine fc_body tabOK Try.func45 rfl Try.ntmps45 rfl rfl rfl ?_
  unfold w_eqIntS at hF
  refine at_seq ?_
  refine at_region ?_
  refine sxk 1 tabOK rfl ?_
  refine aops_nil ?_
  refine at_seq ?_
  refine at_seq ?_
  refine at_region ?_
  refine sxk 1 tabOK rfl ?_
  refine sv rfl (oc_len cInt tabOK rfl rfl rfl) rfl ?_
  refine sxk 1 tabOK rfl ?_
  refine sv rfl (oc_len cInt tabOK rfl rfl rfl) rfl ?_
  refine sxk 1 tabOK rfl ?_
  refine aops_nil ?_
  refine ct_ifn hF rfl (fun hc hF => ?_) (fun hc hF => ?_)
  · refine at_seq ?_
    refine at_keep [] rfl ?_
    refine at_region ?_
    refine sxk 1 tabOK rfl ?_
    refine aops_nil ?_
    refine at_ret ?_
    refine tk_r ?_
    obtain rfl := Option.some.inj hF
    refine ret_le rfl ?_
    exact (vle_refl _)
  · refine at_skip ?_
    refine at_seq ?_
    refine at_seq ?_
    refine at_region ?_
    refine sxk 1 tabOK rfl ?_
    refine aops_nil ?_
    refine at_block ?_
    refine cl_loop (σ := Int) (fun i3 => ⟨[(0, .psl 0 1 (a.map (cInt.enc 0))), (1, .psl 0 1 (b.map (cInt.enc 0))), (5, .int .i64 i3)], [], 3, 26, []⟩) (w_eqIntS_L1 a b) LF 0 hF (le_down (down_all (ee_cons rfl rfl (cInt.ok_psl _ rfl) (ee_cons rfl rfl (cInt.ok_psl _ rfl) (ee_cons rfl rfl rfl ee_nil))) he_nil rfl rfl rfl rfl)) ?_
    rintro lk_ i3 hF
    refine at_eq (s' := ⟨[(0, .psl 0 1 (a.map (cInt.enc 0))), (1, .psl 0 1 (b.map (cInt.enc 0))), (5, .int .i64 i3)], [], 3, 26, []⟩) rfl ?_
    replace hF : w_eqIntS_L1b a b (itr (w_eqIntS_L1 a b) lk_) i3 = some q := hF
    unfold w_eqIntS_L1b at hF
    generalize itr (w_eqIntS_L1 a b) lk_ = go4 at hF ⊢
    refine at_seq ?_
    refine at_seq ?_
    refine at_region ?_
    refine sxk 2 tabOK rfl ?_
    refine sv rfl (oc_len cInt tabOK rfl rfl rfl) rfl ?_
    refine sxk 1 tabOK rfl ?_
    refine aops_nil ?_
    refine ct_if hF rfl (fun hc hF => ?_) (fun hc hF => ?_)
    · refine at_skip ?_
      refine at_seq ?_
      refine at_block ?_
      refine at_seq ?_
      refine at_drawnM (id := 6) 8 (by kernel_rfl) (by kernel_rfl) ?_
      refine nx tabOK rfl ?_
      refine nx tabOK rfl ?_
      obtain ⟨x5, hn_x5, hF⟩ := bnd_some hF
      refine nv rfl (oc_addr cInt hn_x5 tabOK rfl rfl rfl rfl) rfl ?_
      refine nx tabOK rfl ?_
      refine nx tabOK rfl ?_
      refine nx tabOK rfl ?_
      obtain ⟨x6, hn_x6, hF⟩ := bnd_some hF
      refine nv rfl (oc_addr cInt hn_x6 tabOK rfl rfl rfl rfl) rfl ?_
      refine nx tabOK rfl ?_
      refine dn_nil rfl ?_
      refine sxk 1 tabOK rfl ?_
      refine aops_nil ?_
      refine ct_ifn hF rfl (fun hc hF => ?_) (fun hc hF => ?_)
      · refine at_seq ?_
        refine at_keep [] rfl ?_
        refine at_region ?_
        refine sxk 1 tabOK rfl ?_
        refine aops_nil ?_
        refine at_ret ?_
        refine bk_r ?_
        refine tk_r ?_
        refine ll_r ?_
        refine bk_r ?_
        refine tk_r ?_
        obtain rfl := Option.some.inj hF
        refine ret_le rfl ?_
        exact (vle_refl _)
      · refine at_skip ?_
        refine bk_n ?_
        refine at_keep [0, 1, 5] rfl ?_
        refine at_region ?_
        refine sxk 1 tabOK rfl ?_
        obtain ⟨hb, hF⟩ := chk_some hF
        refine s_add tabOK rfl rfl rfl hb rfl ?_
        refine sxk 1 tabOK rfl ?_
        refine aops_nil ?_
        exact arr_loop ⟨(i3 + 1), hF, (le_down (down_all (ee_cons rfl rfl (cInt.ok_psl _ rfl) (ee_cons rfl rfl (cInt.ok_psl _ rfl) (ee_cons rfl rfl rfl ee_nil))) he_nil rfl rfl rfl rfl))⟩
    · refine at_exit ?_
      refine tk_x ?_
      refine ll_x ?_
      refine bk_hit ?_
      refine at_seq ?_
      refine at_keep [] rfl ?_
      refine at_region ?_
      refine sxk 1 tabOK rfl ?_
      refine aops_nil ?_
      refine at_ret ?_
      obtain rfl := Option.some.inj hF
      refine ret_le rfl ?_
      exact (vle_refl _)

theorem w_eqValue_ok (a : PVal) (b : PVal) (q : Bool) (hF : w_eqValue a b = some q) : FC Try.prog 31 [.agg (cVal.row 0 a), .agg (cVal.row 0 b)] [] 3 (fun x _ => x = .bool q) := by
  refine FC.of_le ?_
  refine fc_body tabOK Try.func31 rfl Try.ntmps31 rfl rfl rfl ?_
  unfold w_eqValue at hF
  refine at_seq ?_
  refine at_region ?_
  refine sxk 3 tabOK rfl ?_
  refine aops_nil ?_
  refine at_seq ?_
  refine at_seq ?_
  refine at_region ?_
  refine sxk 5 tabOK rfl ?_
  refine aops_nil ?_
  refine ct_ifn hF rfl (fun hc hF => ?_) (fun hc hF => ?_)
  · refine at_seq ?_
    refine at_keep [] rfl ?_
    refine at_region ?_
    refine sxk 1 tabOK rfl ?_
    refine aops_nil ?_
    refine at_ret ?_
    refine tk_r ?_
    obtain rfl := Option.some.inj hF
    refine ret_le rfl ?_
    exact (vle_refl _)
  · refine at_skip ?_
    refine at_seq ?_
    refine at_seq ?_
    refine at_keep [2, 3] rfl ?_
    refine at_region ?_
    refine sxk 5 tabOK rfl ?_
    refine aops_nil ?_
    refine ct_ifn hF rfl (fun hc hF => ?_) (fun hc hF => ?_)
    · refine at_seq ?_
      refine at_keep [] rfl ?_
      refine at_region ?_
      refine sxk 1 tabOK rfl ?_
      refine aops_nil ?_
      refine at_ret ?_
      refine tk_r ?_
      obtain rfl := Option.some.inj hF
      refine ret_le rfl ?_
      exact (vle_refl _)
    · refine at_skip ?_
      refine at_seq ?_
      refine at_seq ?_
      refine at_region ?_
      refine sxk 5 tabOK rfl ?_
      refine aops_nil ?_
      refine ct_ifn hF rfl (fun hc hF => ?_) (fun hc hF => ?_)
      · refine at_seq ?_
        refine at_keep [] rfl ?_
        refine at_region ?_
        refine sxk 1 tabOK rfl ?_
        refine aops_nil ?_
        refine at_ret ?_
        refine tk_r ?_
        obtain rfl := Option.some.inj hF
        refine ret_le rfl ?_
        exact (vle_refl _)
      · refine at_skip ?_
        refine at_seq ?_
        refine at_keep [] rfl ?_
        refine at_region ?_
        refine sxk 1 tabOK rfl ?_
        refine aops_nil ?_
        refine at_ret ?_
        obtain rfl := Option.some.inj hF
        refine ret_le rfl ?_
        exact (vle_refl _)

theorem w_eqPair_ok (a : PPair) (b : PPair) (q : Bool) (hF : w_eqPair a b = some q) : FC Try.prog 61 [.agg (cPair.row 0 a), .agg (cPair.row 0 b)] [] 3 (fun x _ => x = .bool q) := by
  refine FC.of_le ?_
  refine fc_body tabOK Try.func61 rfl Try.ntmps61 rfl rfl rfl ?_
  unfold w_eqPair at hF
  refine at_seq ?_
  refine at_region ?_
  refine sxk 3 tabOK rfl ?_
  refine aops_nil ?_
  refine at_seq ?_
  refine at_seq ?_
  refine at_region ?_
  refine sxk 4 tabOK rfl ?_
  obtain ⟨x3, hx3, hF⟩ := bnd_some hF
  refine call_eq (w_eqValue_ok a.h b.h x3 hx3) rfl ((rlL_cons (cVal.rl_agg (l := 0) (l' := 0) _ a.h rfl) (rlL_cons (cVal.rl_agg (l := 0) (l' := 0) _ b.h rfl) rlL_nil))) rfl rfl ?_
  refine sxk 1 tabOK rfl ?_
  refine aops_nil ?_
  refine ct_bn hF rfl (fun hc hF => ?_) (fun hc hF => ?_)
  · refine at_seq ?_
    refine at_keep [] rfl ?_
    refine at_region ?_
    refine sxk 1 tabOK rfl ?_
    refine aops_nil ?_
    refine at_ret ?_
    refine tk_r ?_
    obtain rfl := Option.some.inj hF
    refine ret_le rfl ?_
    exact (vle_refl _)
  · refine at_skip ?_
    refine at_seq ?_
    refine at_seq ?_
    refine at_keep [2, 3] rfl ?_
    refine at_region ?_
    refine sxk 4 tabOK rfl ?_
    obtain ⟨x4, hx4, hF⟩ := bnd_some hF
    refine call_eq (w_eqValue_ok a.t b.t x4 hx4) rfl ((rlL_cons (cVal.rl_agg (l := 0) (l' := 0) _ a.t rfl) (rlL_cons (cVal.rl_agg (l := 0) (l' := 0) _ b.t rfl) rlL_nil))) rfl rfl ?_
    refine sxk 1 tabOK rfl ?_
    refine aops_nil ?_
    refine ct_bn hF rfl (fun hc hF => ?_) (fun hc hF => ?_)
    · refine at_seq ?_
      refine at_keep [] rfl ?_
      refine at_region ?_
      refine sxk 1 tabOK rfl ?_
      refine aops_nil ?_
      refine at_ret ?_
      refine tk_r ?_
      obtain rfl := Option.some.inj hF
      refine ret_le rfl ?_
      exact (vle_refl _)
    · refine at_skip ?_
      refine at_seq ?_
      refine at_keep [] rfl ?_
      refine at_region ?_
      refine sxk 1 tabOK rfl ?_
      refine aops_nil ?_
      refine at_ret ?_
      obtain rfl := Option.some.inj hF
      refine ret_le rfl ?_
      exact (vle_refl _)

theorem w_eqPairS_ok (a : List PPair) (b : List PPair) (q : Bool) (hF : w_eqPairS a b = some q) : FC Try.prog 18 [.psl 0 6 (a.map (cPair.enc 0)), .psl 0 6 (b.map (cPair.enc 0))] [] 3 (fun x _ => x = .bool q) := by
  refine FC.of_le ?_
  refine fc_body tabOK Try.func18 rfl Try.ntmps18 rfl rfl rfl ?_
  unfold w_eqPairS at hF
  refine at_seq ?_
  refine at_region ?_
  refine sxk 1 tabOK rfl ?_
  refine aops_nil ?_
  refine at_seq ?_
  refine at_seq ?_
  refine at_region ?_
  refine sxk 1 tabOK rfl ?_
  refine sv rfl (oc_len cPair tabOK rfl rfl rfl) rfl ?_
  refine sxk 1 tabOK rfl ?_
  refine sv rfl (oc_len cPair tabOK rfl rfl rfl) rfl ?_
  refine sxk 1 tabOK rfl ?_
  refine aops_nil ?_
  refine ct_ifn hF rfl (fun hc hF => ?_) (fun hc hF => ?_)
  · refine at_seq ?_
    refine at_keep [] rfl ?_
    refine at_region ?_
    refine sxk 1 tabOK rfl ?_
    refine aops_nil ?_
    refine at_ret ?_
    refine tk_r ?_
    obtain rfl := Option.some.inj hF
    refine ret_le rfl ?_
    exact (vle_refl _)
  · refine at_skip ?_
    refine at_seq ?_
    refine at_seq ?_
    refine at_region ?_
    refine sxk 1 tabOK rfl ?_
    refine aops_nil ?_
    refine at_block ?_
    refine cl_loop (σ := Int) (fun i3 => ⟨[(0, .psl 0 6 (a.map (cPair.enc 0))), (1, .psl 0 6 (b.map (cPair.enc 0))), (5, .int .i64 i3)], [], 3, 27, []⟩) (w_eqPairS_L1 a b) LF 0 hF (le_down (down_all (ee_cons rfl rfl (cPair.ok_psl _ rfl) (ee_cons rfl rfl (cPair.ok_psl _ rfl) (ee_cons rfl rfl rfl ee_nil))) he_nil rfl rfl rfl rfl)) ?_
    rintro lk_ i3 hF
    refine at_eq (s' := ⟨[(0, .psl 0 6 (a.map (cPair.enc 0))), (1, .psl 0 6 (b.map (cPair.enc 0))), (5, .int .i64 i3)], [], 3, 27, []⟩) rfl ?_
    replace hF : w_eqPairS_L1b a b (itr (w_eqPairS_L1 a b) lk_) i3 = some q := hF
    unfold w_eqPairS_L1b at hF
    generalize itr (w_eqPairS_L1 a b) lk_ = go4 at hF ⊢
    refine at_seq ?_
    refine at_seq ?_
    refine at_region ?_
    refine sxk 2 tabOK rfl ?_
    refine sv rfl (oc_len cPair tabOK rfl rfl rfl) rfl ?_
    refine sxk 1 tabOK rfl ?_
    refine aops_nil ?_
    refine ct_if hF rfl (fun hc hF => ?_) (fun hc hF => ?_)
    · refine at_skip ?_
      refine at_seq ?_
      refine at_block ?_
      refine at_seq ?_
      refine at_drawnM (id := 6) 8 (by kernel_rfl) (by kernel_rfl) ?_
      refine nx tabOK rfl ?_
      refine nx tabOK rfl ?_
      obtain ⟨x5, hn_x5, hF⟩ := bnd_some hF
      refine nv rfl (oc_addr cPair hn_x5 tabOK rfl rfl rfl rfl) rfl ?_
      refine nx tabOK rfl ?_
      refine nx tabOK rfl ?_
      refine nx tabOK rfl ?_
      obtain ⟨x6, hn_x6, hF⟩ := bnd_some hF
      refine nv rfl (oc_addr cPair hn_x6 tabOK rfl rfl rfl rfl) rfl ?_
      refine nx tabOK rfl ?_
      refine dn_nil rfl ?_
      obtain ⟨x7, hx7, hF⟩ := bnd_some hF
      refine call_eq (w_eqPair_ok x5 x6 x7 hx7) rfl ((rlL_cons (cPair.rl_agg (l := 0) (l' := 0) _ x5 rfl) (rlL_cons (cPair.rl_agg (l := 0) (l' := 0) _ x6 rfl) rlL_nil))) rfl rfl ?_
      refine sxk 1 tabOK rfl ?_
      refine aops_nil ?_
      refine ct_bn hF rfl (fun hc hF => ?_) (fun hc hF => ?_)
      · refine at_seq ?_
        refine at_keep [] rfl ?_
        refine at_region ?_
        refine sxk 1 tabOK rfl ?_
        refine aops_nil ?_
        refine at_ret ?_
        refine bk_r ?_
        refine tk_r ?_
        refine ll_r ?_
        refine bk_r ?_
        refine tk_r ?_
        obtain rfl := Option.some.inj hF
        refine ret_le rfl ?_
        exact (vle_refl _)
      · refine at_skip ?_
        refine bk_n ?_
        refine at_keep [0, 1, 5] rfl ?_
        refine at_region ?_
        refine sxk 1 tabOK rfl ?_
        obtain ⟨hb, hF⟩ := chk_some hF
        refine s_add tabOK rfl rfl rfl hb rfl ?_
        refine sxk 1 tabOK rfl ?_
        refine aops_nil ?_
        exact arr_loop ⟨(i3 + 1), hF, (le_down (down_all (ee_cons rfl rfl (cPair.ok_psl _ rfl) (ee_cons rfl rfl (cPair.ok_psl _ rfl) (ee_cons rfl rfl rfl ee_nil))) he_nil rfl rfl rfl rfl))⟩
    · refine at_exit ?_
      refine tk_x ?_
      refine ll_x ?_
      refine bk_hit ?_
      refine at_seq ?_
      refine at_keep [] rfl ?_
      refine at_region ?_
      refine sxk 1 tabOK rfl ?_
      refine aops_nil ?_
      refine at_ret ?_
      obtain rfl := Option.some.inj hF
      refine ret_le rfl ?_
      exact (vle_refl _)

theorem w_eqDatum_bok (w_eqDatum : PDat → PDat → Option Bool) (w_eqDatumS : List PDat → List PDat → Option Bool) (h_w_eqDatum : ∀ (a : PDat) (b : PDat) (q : Bool), w_eqDatum a b = some q → FC Try.prog 37 [.agg (cDat.row 0 a), .agg (cDat.row 0 b)] [] 3 (fun x _ => x = .bool q)) (h_w_eqDatumS : ∀ (a : List PDat) (b : List PDat) (q : Bool), w_eqDatumS a b = some q → FC Try.prog 77 [.psl 0 4 (a.map (cDat.enc 0)), .psl 0 4 (b.map (cDat.enc 0))] [] 3 (fun x _ => x = .bool q)) (a : PDat) (b : PDat) (q : Bool) (hF : w_eqDatum_b w_eqDatum w_eqDatumS a b = some q) : FC Try.prog 37 [.agg (cDat.row 0 a), .agg (cDat.row 0 b)] [] 3 (fun x _ => x = .bool q) := by
  refine FC.of_le ?_
  refine fc_body tabOK Try.func37 rfl Try.ntmps37 rfl rfl rfl ?_
  unfold w_eqDatum_b at hF
  refine at_seq ?_
  refine at_region ?_
  refine sxk 3 tabOK rfl ?_
  refine aops_nil ?_
  refine at_seq ?_
  refine at_seq ?_
  refine at_region ?_
  refine sxk 5 tabOK rfl ?_
  refine aops_nil ?_
  refine ct_ifn hF rfl (fun hc hF => ?_) (fun hc hF => ?_)
  · refine at_seq ?_
    refine at_keep [] rfl ?_
    refine at_region ?_
    refine sxk 1 tabOK rfl ?_
    refine aops_nil ?_
    refine at_ret ?_
    refine tk_r ?_
    obtain rfl := Option.some.inj hF
    refine ret_le rfl ?_
    exact (vle_refl _)
  · refine at_skip ?_
    refine at_seq ?_
    refine at_seq ?_
    refine at_keep [2, 3] rfl ?_
    refine at_region ?_
    refine sxk 5 tabOK rfl ?_
    refine aops_nil ?_
    refine ct_ifn hF rfl (fun hc hF => ?_) (fun hc hF => ?_)
    · refine at_seq ?_
      refine at_keep [] rfl ?_
      refine at_region ?_
      refine sxk 1 tabOK rfl ?_
      refine aops_nil ?_
      refine at_ret ?_
      refine tk_r ?_
      obtain rfl := Option.some.inj hF
      refine ret_le rfl ?_
      exact (vle_refl _)
    · refine at_skip ?_
      refine at_seq ?_
      refine at_seq ?_
      refine at_region ?_
      refine sxk 5 tabOK rfl ?_
      refine aops_nil ?_
      refine ct_ifn hF rfl (fun hc hF => ?_) (fun hc hF => ?_)
      · refine at_seq ?_
        refine at_keep [] rfl ?_
        refine at_region ?_
        refine sxk 1 tabOK rfl ?_
        refine aops_nil ?_
        refine at_ret ?_
        refine tk_r ?_
        obtain rfl := Option.some.inj hF
        refine ret_le rfl ?_
        exact (vle_refl _)
      · refine at_skip ?_
        refine at_seq ?_
        refine at_seq ?_
        refine at_keep [2, 3] rfl ?_
        refine at_region ?_
        refine sxk 4 tabOK rfl ?_
        obtain ⟨x5, hx5, hF⟩ := bnd_some hF
        refine call_eq (h_w_eqDatumS a.items b.items x5 hx5) rfl ((rlL_cons (cDat.rl_psl (l := 0) (l' := 0) _ a.items rfl) (rlL_cons (cDat.rl_psl (l := 0) (l' := 0) _ b.items rfl) rlL_nil))) rfl rfl ?_
        refine sxk 1 tabOK rfl ?_
        refine aops_nil ?_
        refine ct_bn hF rfl (fun hc hF => ?_) (fun hc hF => ?_)
        · refine at_seq ?_
          refine at_keep [] rfl ?_
          refine at_region ?_
          refine sxk 1 tabOK rfl ?_
          refine aops_nil ?_
          refine at_ret ?_
          refine tk_r ?_
          obtain rfl := Option.some.inj hF
          refine ret_le rfl ?_
          exact (vle_refl _)
        · refine at_skip ?_
          refine at_seq ?_
          refine at_keep [] rfl ?_
          refine at_region ?_
          refine sxk 1 tabOK rfl ?_
          refine aops_nil ?_
          refine at_ret ?_
          obtain rfl := Option.some.inj hF
          refine ret_le rfl ?_
          exact (vle_refl _)

theorem w_eqDatumS_bok (w_eqDatum : PDat → PDat → Option Bool) (w_eqDatumS : List PDat → List PDat → Option Bool) (h_w_eqDatum : ∀ (a : PDat) (b : PDat) (q : Bool), w_eqDatum a b = some q → FC Try.prog 37 [.agg (cDat.row 0 a), .agg (cDat.row 0 b)] [] 3 (fun x _ => x = .bool q)) (h_w_eqDatumS : ∀ (a : List PDat) (b : List PDat) (q : Bool), w_eqDatumS a b = some q → FC Try.prog 77 [.psl 0 4 (a.map (cDat.enc 0)), .psl 0 4 (b.map (cDat.enc 0))] [] 3 (fun x _ => x = .bool q)) (a : List PDat) (b : List PDat) (q : Bool) (hF : w_eqDatumS_b w_eqDatum w_eqDatumS a b = some q) : FC Try.prog 77 [.psl 0 4 (a.map (cDat.enc 0)), .psl 0 4 (b.map (cDat.enc 0))] [] 3 (fun x _ => x = .bool q) := by
  refine FC.of_le ?_
  refine fc_body tabOK Try.func77 rfl Try.ntmps77 rfl rfl rfl ?_
  unfold w_eqDatumS_b at hF
  refine at_seq ?_
  refine at_region ?_
  refine sxk 1 tabOK rfl ?_
  refine aops_nil ?_
  refine at_seq ?_
  refine at_seq ?_
  refine at_region ?_
  refine sxk 1 tabOK rfl ?_
  refine sv rfl (oc_len cDat tabOK rfl rfl rfl) rfl ?_
  refine sxk 1 tabOK rfl ?_
  refine sv rfl (oc_len cDat tabOK rfl rfl rfl) rfl ?_
  refine sxk 1 tabOK rfl ?_
  refine aops_nil ?_
  refine ct_ifn hF rfl (fun hc hF => ?_) (fun hc hF => ?_)
  · refine at_seq ?_
    refine at_keep [] rfl ?_
    refine at_region ?_
    refine sxk 1 tabOK rfl ?_
    refine aops_nil ?_
    refine at_ret ?_
    refine tk_r ?_
    obtain rfl := Option.some.inj hF
    refine ret_le rfl ?_
    exact (vle_refl _)
  · refine at_skip ?_
    refine at_seq ?_
    refine at_seq ?_
    refine at_region ?_
    refine sxk 1 tabOK rfl ?_
    refine aops_nil ?_
    refine at_block ?_
    refine cl_loop (σ := Int) (fun i5 => ⟨[(0, .psl 0 4 (a.map (cDat.enc 0))), (1, .psl 0 4 (b.map (cDat.enc 0))), (5, .int .i64 i5)], [], 3, 27, []⟩) (w_eqDatumS_L1 w_eqDatum a b) LF 0 hF (le_down (down_all (ee_cons rfl rfl (cDat.ok_psl _ rfl) (ee_cons rfl rfl (cDat.ok_psl _ rfl) (ee_cons rfl rfl rfl ee_nil))) he_nil rfl rfl rfl rfl)) ?_
    rintro lk_ i5 hF
    refine at_eq (s' := ⟨[(0, .psl 0 4 (a.map (cDat.enc 0))), (1, .psl 0 4 (b.map (cDat.enc 0))), (5, .int .i64 i5)], [], 3, 27, []⟩) rfl ?_
    replace hF : w_eqDatumS_L1b w_eqDatum a b (itr (w_eqDatumS_L1 w_eqDatum a b) lk_) i5 = some q := hF
    unfold w_eqDatumS_L1b at hF
    generalize itr (w_eqDatumS_L1 w_eqDatum a b) lk_ = go6 at hF ⊢
    refine at_seq ?_
    refine at_seq ?_
    refine at_region ?_
    refine sxk 2 tabOK rfl ?_
    refine sv rfl (oc_len cDat tabOK rfl rfl rfl) rfl ?_
    refine sxk 1 tabOK rfl ?_
    refine aops_nil ?_
    refine ct_if hF rfl (fun hc hF => ?_) (fun hc hF => ?_)
    · refine at_skip ?_
      refine at_seq ?_
      refine at_block ?_
      refine at_seq ?_
      refine at_drawnM (id := 6) 8 (by kernel_rfl) (by kernel_rfl) ?_
      refine nx tabOK rfl ?_
      refine nx tabOK rfl ?_
      obtain ⟨x7, hn_x7, hF⟩ := bnd_some hF
      refine nv rfl (oc_addr cDat hn_x7 tabOK rfl rfl rfl rfl) rfl ?_
      refine nx tabOK rfl ?_
      refine nx tabOK rfl ?_
      refine nx tabOK rfl ?_
      obtain ⟨x8, hn_x8, hF⟩ := bnd_some hF
      refine nv rfl (oc_addr cDat hn_x8 tabOK rfl rfl rfl rfl) rfl ?_
      refine nx tabOK rfl ?_
      refine dn_nil rfl ?_
      obtain ⟨x9, hx9, hF⟩ := bnd_some hF
      refine call_eq (h_w_eqDatum x7 x8 x9 hx9) rfl ((rlL_cons (cDat.rl_agg (l := 0) (l' := 0) _ x7 rfl) (rlL_cons (cDat.rl_agg (l := 0) (l' := 0) _ x8 rfl) rlL_nil))) rfl rfl ?_
      refine sxk 1 tabOK rfl ?_
      refine aops_nil ?_
      refine ct_bn hF rfl (fun hc hF => ?_) (fun hc hF => ?_)
      · refine at_seq ?_
        refine at_keep [] rfl ?_
        refine at_region ?_
        refine sxk 1 tabOK rfl ?_
        refine aops_nil ?_
        refine at_ret ?_
        refine bk_r ?_
        refine tk_r ?_
        refine ll_r ?_
        refine bk_r ?_
        refine tk_r ?_
        obtain rfl := Option.some.inj hF
        refine ret_le rfl ?_
        exact (vle_refl _)
      · refine at_skip ?_
        refine bk_n ?_
        refine at_keep [0, 1, 5] rfl ?_
        refine at_region ?_
        refine sxk 1 tabOK rfl ?_
        obtain ⟨hb, hF⟩ := chk_some hF
        refine s_add tabOK rfl rfl rfl hb rfl ?_
        refine sxk 1 tabOK rfl ?_
        refine aops_nil ?_
        exact arr_loop ⟨(i5 + 1), hF, (le_down (down_all (ee_cons rfl rfl (cDat.ok_psl _ rfl) (ee_cons rfl rfl (cDat.ok_psl _ rfl) (ee_cons rfl rfl rfl ee_nil))) he_nil rfl rfl rfl rfl))⟩
    · refine at_exit ?_
      refine tk_x ?_
      refine ll_x ?_
      refine bk_hit ?_
      refine at_seq ?_
      refine at_keep [] rfl ?_
      refine at_region ?_
      refine sxk 1 tabOK rfl ?_
      refine aops_nil ?_
      refine at_ret ?_
      obtain rfl := Option.some.inj hF
      refine ret_le rfl ?_
      exact (vle_refl _)

theorem w_eqDatum_all (n : Nat) : (∀ (a : PDat) (b : PDat) (q : Bool), w_eqDatum n a b = some q → FC Try.prog 37 [.agg (cDat.row 0 a), .agg (cDat.row 0 b)] [] 3 (fun x _ => x = .bool q)) ∧ (∀ (a : List PDat) (b : List PDat) (q : Bool), w_eqDatumS n a b = some q → FC Try.prog 77 [.psl 0 4 (a.map (cDat.enc 0)), .psl 0 4 (b.map (cDat.enc 0))] [] 3 (fun x _ => x = .bool q)) := by
  induction n with
  | zero => exact ⟨(fun _ _ q h => by cases h), (fun _ _ q h => by cases h)⟩
  | succ n ih => exact ⟨fun a b q h => w_eqDatum_bok (w_eqDatum n) (w_eqDatumS n) ih.1 ih.2 a b q h, fun a b q h => w_eqDatumS_bok (w_eqDatum n) (w_eqDatumS n) ih.1 ih.2 a b q h⟩

theorem w_eqDatum_ok (n : Nat) (a : PDat) (b : PDat) (q : Bool) (hF : w_eqDatum n a b = some q) : FC Try.prog 37 [.agg (cDat.row 0 a), .agg (cDat.row 0 b)] [] 3 (fun x _ => x = .bool q) := (w_eqDatum_all n).1 a b q hF

theorem w_eqDatumS_ok (n : Nat) (a : List PDat) (b : List PDat) (q : Bool) (hF : w_eqDatumS n a b = some q) : FC Try.prog 77 [.psl 0 4 (a.map (cDat.enc 0)), .psl 0 4 (b.map (cDat.enc 0))] [] 3 (fun x _ => x = .bool q) := (w_eqDatum_all n).2 a b q hF

theorem w_eqInstr_ok (a : PInstr) (b : PInstr) (q : Bool) (hF : w_eqInstr a b = some q) : FC Try.prog 134 [.agg (cInstr.row 0 a), .agg (cInstr.row 0 b)] [] 3 (fun x _ => x = .bool q) := by
  refine FC.of_le ?_
  refine fc_body tabOK Try.func134 rfl Try.ntmps134 rfl rfl rfl ?_
  unfold w_eqInstr at hF
  refine at_seq ?_
  refine at_region ?_
  refine sxk 3 tabOK rfl ?_
  refine aops_nil ?_
  refine at_seq ?_
  refine at_seq ?_
  refine at_region ?_
  refine sxk 5 tabOK rfl ?_
  refine aops_nil ?_
  refine ct_ifn hF rfl (fun hc hF => ?_) (fun hc hF => ?_)
  · refine at_seq ?_
    refine at_keep [] rfl ?_
    refine at_region ?_
    refine sxk 1 tabOK rfl ?_
    refine aops_nil ?_
    refine at_ret ?_
    refine tk_r ?_
    obtain rfl := Option.some.inj hF
    refine ret_le rfl ?_
    exact (vle_refl _)
  · refine at_skip ?_
    refine at_seq ?_
    refine at_seq ?_
    refine at_keep [2, 3] rfl ?_
    refine at_region ?_
    refine sxk 5 tabOK rfl ?_
    refine aops_nil ?_
    refine ct_ifn hF rfl (fun hc hF => ?_) (fun hc hF => ?_)
    · refine at_seq ?_
      refine at_keep [] rfl ?_
      refine at_region ?_
      refine sxk 1 tabOK rfl ?_
      refine aops_nil ?_
      refine at_ret ?_
      refine tk_r ?_
      obtain rfl := Option.some.inj hF
      refine ret_le rfl ?_
      exact (vle_refl _)
    · refine at_skip ?_
      refine at_seq ?_
      refine at_seq ?_
      refine at_region ?_
      refine sxk 4 tabOK rfl ?_
      obtain ⟨x3, hx3, hF⟩ := bnd_some hF
      refine call_eq (w_eqDatum_ok RF a.d b.d x3 hx3) rfl ((rlL_cons (cDat.rl_agg (l := 0) (l' := 0) _ a.d rfl) (rlL_cons (cDat.rl_agg (l := 0) (l' := 0) _ b.d rfl) rlL_nil))) rfl rfl ?_
      refine sxk 1 tabOK rfl ?_
      refine aops_nil ?_
      refine ct_bn hF rfl (fun hc hF => ?_) (fun hc hF => ?_)
      · refine at_seq ?_
        refine at_keep [] rfl ?_
        refine at_region ?_
        refine sxk 1 tabOK rfl ?_
        refine aops_nil ?_
        refine at_ret ?_
        refine tk_r ?_
        obtain rfl := Option.some.inj hF
        refine ret_le rfl ?_
        exact (vle_refl _)
      · refine at_skip ?_
        refine at_seq ?_
        refine at_keep [] rfl ?_
        refine at_region ?_
        refine sxk 1 tabOK rfl ?_
        refine aops_nil ?_
        refine at_ret ?_
        obtain rfl := Option.some.inj hF
        refine ret_le rfl ?_
        exact (vle_refl _)

theorem w_eqInstrS_ok (a : List PInstr) (b : List PInstr) (q : Bool) (hF : w_eqInstrS a b = some q) : FC Try.prog 128 [.psl 0 6 (a.map (cInstr.enc 0)), .psl 0 6 (b.map (cInstr.enc 0))] [] 3 (fun x _ => x = .bool q) := by
  refine FC.of_le ?_
  refine fc_body tabOK Try.func128 rfl Try.ntmps128 rfl rfl rfl ?_
  unfold w_eqInstrS at hF
  refine at_seq ?_
  refine at_region ?_
  refine sxk 1 tabOK rfl ?_
  refine aops_nil ?_
  refine at_seq ?_
  refine at_seq ?_
  refine at_region ?_
  refine sxk 1 tabOK rfl ?_
  refine sv rfl (oc_len cInstr tabOK rfl rfl rfl) rfl ?_
  refine sxk 1 tabOK rfl ?_
  refine sv rfl (oc_len cInstr tabOK rfl rfl rfl) rfl ?_
  refine sxk 1 tabOK rfl ?_
  refine aops_nil ?_
  refine ct_ifn hF rfl (fun hc hF => ?_) (fun hc hF => ?_)
  · refine at_seq ?_
    refine at_keep [] rfl ?_
    refine at_region ?_
    refine sxk 1 tabOK rfl ?_
    refine aops_nil ?_
    refine at_ret ?_
    refine tk_r ?_
    obtain rfl := Option.some.inj hF
    refine ret_le rfl ?_
    exact (vle_refl _)
  · refine at_skip ?_
    refine at_seq ?_
    refine at_seq ?_
    refine at_region ?_
    refine sxk 1 tabOK rfl ?_
    refine aops_nil ?_
    refine at_block ?_
    refine cl_loop (σ := Int) (fun i3 => ⟨[(0, .psl 0 6 (a.map (cInstr.enc 0))), (1, .psl 0 6 (b.map (cInstr.enc 0))), (5, .int .i64 i3)], [], 3, 27, []⟩) (w_eqInstrS_L1 a b) LF 0 hF (le_down (down_all (ee_cons rfl rfl (cInstr.ok_psl _ rfl) (ee_cons rfl rfl (cInstr.ok_psl _ rfl) (ee_cons rfl rfl rfl ee_nil))) he_nil rfl rfl rfl rfl)) ?_
    rintro lk_ i3 hF
    refine at_eq (s' := ⟨[(0, .psl 0 6 (a.map (cInstr.enc 0))), (1, .psl 0 6 (b.map (cInstr.enc 0))), (5, .int .i64 i3)], [], 3, 27, []⟩) rfl ?_
    replace hF : w_eqInstrS_L1b a b (itr (w_eqInstrS_L1 a b) lk_) i3 = some q := hF
    unfold w_eqInstrS_L1b at hF
    generalize itr (w_eqInstrS_L1 a b) lk_ = go4 at hF ⊢
    refine at_seq ?_
    refine at_seq ?_
    refine at_region ?_
    refine sxk 2 tabOK rfl ?_
    refine sv rfl (oc_len cInstr tabOK rfl rfl rfl) rfl ?_
    refine sxk 1 tabOK rfl ?_
    refine aops_nil ?_
    refine ct_if hF rfl (fun hc hF => ?_) (fun hc hF => ?_)
    · refine at_skip ?_
      refine at_seq ?_
      refine at_block ?_
      refine at_seq ?_
      refine at_drawnM (id := 6) 8 (by kernel_rfl) (by kernel_rfl) ?_
      refine nx tabOK rfl ?_
      refine nx tabOK rfl ?_
      obtain ⟨x5, hn_x5, hF⟩ := bnd_some hF
      refine nv rfl (oc_addr cInstr hn_x5 tabOK rfl rfl rfl rfl) rfl ?_
      refine nx tabOK rfl ?_
      refine nx tabOK rfl ?_
      refine nx tabOK rfl ?_
      obtain ⟨x6, hn_x6, hF⟩ := bnd_some hF
      refine nv rfl (oc_addr cInstr hn_x6 tabOK rfl rfl rfl rfl) rfl ?_
      refine nx tabOK rfl ?_
      refine dn_nil rfl ?_
      obtain ⟨x7, hx7, hF⟩ := bnd_some hF
      refine call_eq (w_eqInstr_ok x5 x6 x7 hx7) rfl ((rlL_cons (cInstr.rl_agg (l := 0) (l' := 0) _ x5 rfl) (rlL_cons (cInstr.rl_agg (l := 0) (l' := 0) _ x6 rfl) rlL_nil))) rfl rfl ?_
      refine sxk 1 tabOK rfl ?_
      refine aops_nil ?_
      refine ct_bn hF rfl (fun hc hF => ?_) (fun hc hF => ?_)
      · refine at_seq ?_
        refine at_keep [] rfl ?_
        refine at_region ?_
        refine sxk 1 tabOK rfl ?_
        refine aops_nil ?_
        refine at_ret ?_
        refine bk_r ?_
        refine tk_r ?_
        refine ll_r ?_
        refine bk_r ?_
        refine tk_r ?_
        obtain rfl := Option.some.inj hF
        refine ret_le rfl ?_
        exact (vle_refl _)
      · refine at_skip ?_
        refine bk_n ?_
        refine at_keep [0, 1, 5] rfl ?_
        refine at_region ?_
        refine sxk 1 tabOK rfl ?_
        obtain ⟨hb, hF⟩ := chk_some hF
        refine s_add tabOK rfl rfl rfl hb rfl ?_
        refine sxk 1 tabOK rfl ?_
        refine aops_nil ?_
        exact arr_loop ⟨(i3 + 1), hF, (le_down (down_all (ee_cons rfl rfl (cInstr.ok_psl _ rfl) (ee_cons rfl rfl (cInstr.ok_psl _ rfl) (ee_cons rfl rfl rfl ee_nil))) he_nil rfl rfl rfl rfl))⟩
    · refine at_exit ?_
      refine tk_x ?_
      refine ll_x ?_
      refine bk_hit ?_
      refine at_seq ?_
      refine at_keep [] rfl ?_
      refine at_region ?_
      refine sxk 1 tabOK rfl ?_
      refine aops_nil ?_
      refine at_ret ?_
      obtain rfl := Option.some.inj hF
      refine ret_le rfl ?_
      exact (vle_refl _)

theorem w_eqCode_ok (a : PCode) (b : PCode) (q : Bool) (hF : w_eqCode a b = some q) : FC Try.prog 105 [.agg (cCode.row 0 a), .agg (cCode.row 0 b)] [] 3 (fun x _ => x = .bool q) := by
  refine FC.of_le ?_
  refine fc_body tabOK Try.func105 rfl Try.ntmps105 rfl rfl rfl ?_
  unfold w_eqCode at hF
  refine at_seq ?_
  refine at_region ?_
  refine sxk 3 tabOK rfl ?_
  refine aops_nil ?_
  refine at_seq ?_
  refine at_seq ?_
  refine at_region ?_
  refine sxk 5 tabOK rfl ?_
  refine aops_nil ?_
  refine ct_ifn hF rfl (fun hc hF => ?_) (fun hc hF => ?_)
  · refine at_seq ?_
    refine at_keep [] rfl ?_
    refine at_region ?_
    refine sxk 1 tabOK rfl ?_
    refine aops_nil ?_
    refine at_ret ?_
    refine tk_r ?_
    obtain rfl := Option.some.inj hF
    refine ret_le rfl ?_
    exact (vle_refl _)
  · refine at_skip ?_
    refine at_seq ?_
    refine at_seq ?_
    refine at_keep [2, 3] rfl ?_
    refine at_region ?_
    refine sxk 5 tabOK rfl ?_
    refine aops_nil ?_
    refine ct_ifn hF rfl (fun hc hF => ?_) (fun hc hF => ?_)
    · refine at_seq ?_
      refine at_keep [] rfl ?_
      refine at_region ?_
      refine sxk 1 tabOK rfl ?_
      refine aops_nil ?_
      refine at_ret ?_
      refine tk_r ?_
      obtain rfl := Option.some.inj hF
      refine ret_le rfl ?_
      exact (vle_refl _)
    · refine at_skip ?_
      refine at_seq ?_
      refine at_seq ?_
      refine at_region ?_
      refine sxk 5 tabOK rfl ?_
      refine aops_nil ?_
      refine ct_ifn hF rfl (fun hc hF => ?_) (fun hc hF => ?_)
      · refine at_seq ?_
        refine at_keep [] rfl ?_
        refine at_region ?_
        refine sxk 1 tabOK rfl ?_
        refine aops_nil ?_
        refine at_ret ?_
        refine tk_r ?_
        obtain rfl := Option.some.inj hF
        refine ret_le rfl ?_
        exact (vle_refl _)
      · refine at_skip ?_
        refine at_seq ?_
        refine at_seq ?_
        refine at_keep [2, 3] rfl ?_
        refine at_region ?_
        refine sxk 4 tabOK rfl ?_
        obtain ⟨x3, hx3, hF⟩ := bnd_some hF
        refine call_eq (w_eqInstrS_ok a.instrs b.instrs x3 hx3) rfl ((rlL_cons (cInstr.rl_psl (l := 0) (l' := 0) _ a.instrs rfl) (rlL_cons (cInstr.rl_psl (l := 0) (l' := 0) _ b.instrs rfl) rlL_nil))) rfl rfl ?_
        refine sxk 1 tabOK rfl ?_
        refine aops_nil ?_
        refine ct_bn hF rfl (fun hc hF => ?_) (fun hc hF => ?_)
        · refine at_seq ?_
          refine at_keep [] rfl ?_
          refine at_region ?_
          refine sxk 1 tabOK rfl ?_
          refine aops_nil ?_
          refine at_ret ?_
          refine tk_r ?_
          obtain rfl := Option.some.inj hF
          refine ret_le rfl ?_
          exact (vle_refl _)
        · refine at_skip ?_
          refine at_seq ?_
          refine at_keep [] rfl ?_
          refine at_region ?_
          refine sxk 1 tabOK rfl ?_
          refine aops_nil ?_
          refine at_ret ?_
          obtain rfl := Option.some.inj hF
          refine ret_le rfl ?_
          exact (vle_refl _)

theorem w_eqCodeS_ok (a : List PCode) (b : List PCode) (q : Bool) (hF : w_eqCodeS a b = some q) : FC Try.prog 66 [.psl 0 4 (a.map (cCode.enc 0)), .psl 0 4 (b.map (cCode.enc 0))] [] 3 (fun x _ => x = .bool q) := by
  refine FC.of_le ?_
  refine fc_body tabOK Try.func66 rfl Try.ntmps66 rfl rfl rfl ?_
  unfold w_eqCodeS at hF
  refine at_seq ?_
  refine at_region ?_
  refine sxk 1 tabOK rfl ?_
  refine aops_nil ?_
  refine at_seq ?_
  refine at_seq ?_
  refine at_region ?_
  refine sxk 1 tabOK rfl ?_
  refine sv rfl (oc_len cCode tabOK rfl rfl rfl) rfl ?_
  refine sxk 1 tabOK rfl ?_
  refine sv rfl (oc_len cCode tabOK rfl rfl rfl) rfl ?_
  refine sxk 1 tabOK rfl ?_
  refine aops_nil ?_
  refine ct_ifn hF rfl (fun hc hF => ?_) (fun hc hF => ?_)
  · refine at_seq ?_
    refine at_keep [] rfl ?_
    refine at_region ?_
    refine sxk 1 tabOK rfl ?_
    refine aops_nil ?_
    refine at_ret ?_
    refine tk_r ?_
    obtain rfl := Option.some.inj hF
    refine ret_le rfl ?_
    exact (vle_refl _)
  · refine at_skip ?_
    refine at_seq ?_
    refine at_seq ?_
    refine at_region ?_
    refine sxk 1 tabOK rfl ?_
    refine aops_nil ?_
    refine at_block ?_
    refine cl_loop (σ := Int) (fun i3 => ⟨[(0, .psl 0 4 (a.map (cCode.enc 0))), (1, .psl 0 4 (b.map (cCode.enc 0))), (5, .int .i64 i3)], [], 3, 27, []⟩) (w_eqCodeS_L1 a b) LF 0 hF (le_down (down_all (ee_cons rfl rfl (cCode.ok_psl _ rfl) (ee_cons rfl rfl (cCode.ok_psl _ rfl) (ee_cons rfl rfl rfl ee_nil))) he_nil rfl rfl rfl rfl)) ?_
    rintro lk_ i3 hF
    refine at_eq (s' := ⟨[(0, .psl 0 4 (a.map (cCode.enc 0))), (1, .psl 0 4 (b.map (cCode.enc 0))), (5, .int .i64 i3)], [], 3, 27, []⟩) rfl ?_
    replace hF : w_eqCodeS_L1b a b (itr (w_eqCodeS_L1 a b) lk_) i3 = some q := hF
    unfold w_eqCodeS_L1b at hF
    generalize itr (w_eqCodeS_L1 a b) lk_ = go4 at hF ⊢
    refine at_seq ?_
    refine at_seq ?_
    refine at_region ?_
    refine sxk 2 tabOK rfl ?_
    refine sv rfl (oc_len cCode tabOK rfl rfl rfl) rfl ?_
    refine sxk 1 tabOK rfl ?_
    refine aops_nil ?_
    refine ct_if hF rfl (fun hc hF => ?_) (fun hc hF => ?_)
    · refine at_skip ?_
      refine at_seq ?_
      refine at_block ?_
      refine at_seq ?_
      refine at_drawnM (id := 6) 8 (by kernel_rfl) (by kernel_rfl) ?_
      refine nx tabOK rfl ?_
      refine nx tabOK rfl ?_
      obtain ⟨x5, hn_x5, hF⟩ := bnd_some hF
      refine nv rfl (oc_addr cCode hn_x5 tabOK rfl rfl rfl rfl) rfl ?_
      refine nx tabOK rfl ?_
      refine nx tabOK rfl ?_
      refine nx tabOK rfl ?_
      obtain ⟨x6, hn_x6, hF⟩ := bnd_some hF
      refine nv rfl (oc_addr cCode hn_x6 tabOK rfl rfl rfl rfl) rfl ?_
      refine nx tabOK rfl ?_
      refine dn_nil rfl ?_
      obtain ⟨x7, hx7, hF⟩ := bnd_some hF
      refine call_eq (w_eqCode_ok x5 x6 x7 hx7) rfl ((rlL_cons (cCode.rl_agg (l := 0) (l' := 0) _ x5 rfl) (rlL_cons (cCode.rl_agg (l := 0) (l' := 0) _ x6 rfl) rlL_nil))) rfl rfl ?_
      refine sxk 1 tabOK rfl ?_
      refine aops_nil ?_
      refine ct_bn hF rfl (fun hc hF => ?_) (fun hc hF => ?_)
      · refine at_seq ?_
        refine at_keep [] rfl ?_
        refine at_region ?_
        refine sxk 1 tabOK rfl ?_
        refine aops_nil ?_
        refine at_ret ?_
        refine bk_r ?_
        refine tk_r ?_
        refine ll_r ?_
        refine bk_r ?_
        refine tk_r ?_
        obtain rfl := Option.some.inj hF
        refine ret_le rfl ?_
        exact (vle_refl _)
      · refine at_skip ?_
        refine bk_n ?_
        refine at_keep [0, 1, 5] rfl ?_
        refine at_region ?_
        refine sxk 1 tabOK rfl ?_
        obtain ⟨hb, hF⟩ := chk_some hF
        refine s_add tabOK rfl rfl rfl hb rfl ?_
        refine sxk 1 tabOK rfl ?_
        refine aops_nil ?_
        exact arr_loop ⟨(i3 + 1), hF, (le_down (down_all (ee_cons rfl rfl (cCode.ok_psl _ rfl) (ee_cons rfl rfl (cCode.ok_psl _ rfl) (ee_cons rfl rfl rfl ee_nil))) he_nil rfl rfl rfl rfl))⟩
    · refine at_exit ?_
      refine tk_x ?_
      refine ll_x ?_
      refine bk_hit ?_
      refine at_seq ?_
      refine at_keep [] rfl ?_
      refine at_region ?_
      refine sxk 1 tabOK rfl ?_
      refine aops_nil ?_
      refine at_ret ?_
      obtain rfl := Option.some.inj hF
      refine ret_le rfl ?_
      exact (vle_refl _)

theorem w_eqImage_ok (a : PImage) (b : PImage) (q : Bool) (hF : w_eqImage a b = some q) : FC Try.prog 27 [.agg (cImage.row 0 a), .agg (cImage.row 0 b)] [] 3 (fun x _ => x = .bool q) := by
  refine FC.of_le ?_
  refine fc_body tabOK Try.func27 rfl Try.ntmps27 rfl rfl rfl ?_
  unfold w_eqImage at hF
  refine at_seq ?_
  refine at_region ?_
  refine sxk 3 tabOK rfl ?_
  refine aops_nil ?_
  refine at_seq ?_
  refine at_seq ?_
  refine at_region ?_
  refine sxk 4 tabOK rfl ?_
  obtain ⟨x3, hx3, hF⟩ := bnd_some hF
  refine call_eq (w_eqCodeS_ok a.codes b.codes x3 hx3) rfl ((rlL_cons (cCode.rl_psl (l := 0) (l' := 0) _ a.codes rfl) (rlL_cons (cCode.rl_psl (l := 0) (l' := 0) _ b.codes rfl) rlL_nil))) rfl rfl ?_
  refine sxk 1 tabOK rfl ?_
  refine aops_nil ?_
  refine ct_bn hF rfl (fun hc hF => ?_) (fun hc hF => ?_)
  · refine at_seq ?_
    refine at_keep [] rfl ?_
    refine at_region ?_
    refine sxk 1 tabOK rfl ?_
    refine aops_nil ?_
    refine at_ret ?_
    refine tk_r ?_
    obtain rfl := Option.some.inj hF
    refine ret_le rfl ?_
    exact (vle_refl _)
  · refine at_skip ?_
    refine at_seq ?_
    refine at_seq ?_
    refine at_keep [2, 3] rfl ?_
    refine at_region ?_
    refine sxk 5 tabOK rfl ?_
    refine aops_nil ?_
    refine ct_ifn hF rfl (fun hc hF => ?_) (fun hc hF => ?_)
    · refine at_seq ?_
      refine at_keep [] rfl ?_
      refine at_region ?_
      refine sxk 1 tabOK rfl ?_
      refine aops_nil ?_
      refine at_ret ?_
      refine tk_r ?_
      obtain rfl := Option.some.inj hF
      refine ret_le rfl ?_
      exact (vle_refl _)
    · refine at_skip ?_
      refine at_seq ?_
      refine at_keep [] rfl ?_
      refine at_region ?_
      refine sxk 1 tabOK rfl ?_
      refine aops_nil ?_
      refine at_ret ?_
      obtain rfl := Option.some.inj hF
      refine ret_le rfl ?_
      exact (vle_refl _)

theorem w_toIntS_ok (a : List Int) (q : List Int) (hF : w_toIntS a = some q) : FC Try.prog 92 [.psl 0 1 (a.map (cInt.enc 0))] [] 3 (fun x _ => x = .psl 1 1 (q.map (cInt.enc 1))) := by
  refine FC.of_le ?_
  refine fc_body tabOK Try.func92 rfl Try.ntmps92 rfl rfl rfl ?_
  unfold w_toIntS at hF
  refine at_seq ?_
  refine at_region ?_
  refine sxk 1 tabOK rfl ?_
  refine aops_nil ?_
  refine at_seq ?_
  refine at_region ?_
  refine sxk 1 tabOK rfl ?_
  refine sv rfl (oc_len cInt tabOK rfl rfl rfl) rfl ?_
  obtain ⟨hb, hF⟩ := chk_some hF
  refine sc_make cInt (l := 0) (v := (0 : Int)) hb tabOK rfl rfl rfl rfl (vleL_refl _) rfl rfl rfl ?_
  refine sxk 1 tabOK rfl ?_
  refine aops_nil ?_
  refine at_seq ?_
  refine at_seq ?_
  refine at_region ?_
  refine sxk 1 tabOK rfl ?_
  refine aops_nil ?_
  refine at_block ?_
  refine cl_loop (σ := Int × List Int) (fun v => match v with | (i2, out3) => ⟨[(0, .psl 0 1 (a.map (cInt.enc 0))), (3, .hsl 3 0 out3.length), (4, .int .i64 i2)], [(3, ⟨1, out3.map (cInt.enc 0)⟩)], 4, 22, []⟩) (w_toIntS_L1 a) LF (0, (List.replicate (a.length : Int).toNat (0 : Int))) hF (le_down (down_all (ee_cons rfl rfl (cInt.ok_psl _ rfl) (ee_cons rfl rfl (Nat.le_of_ble_eq_true rfl) (ee_cons rfl rfl rfl ee_nil))) (he_cons rfl rfl rfl (cInt.rows_ok _ rfl) he_nil) rfl rfl rfl rfl)) ?_
  rintro lk_ ⟨i2, out3⟩ hF
  refine at_eq (s' := ⟨[(0, .psl 0 1 (a.map (cInt.enc 0))), (3, .hsl 3 0 out3.length), (4, .int .i64 i2)], [(3, ⟨1, out3.map (cInt.enc 0)⟩)], 4, 22, []⟩) rfl ?_
  replace hF : w_toIntS_L1b a (itr (w_toIntS_L1 a) lk_) i2 out3 = some q := hF
  unfold w_toIntS_L1b at hF
  generalize itr (w_toIntS_L1 a) lk_ = go4 at hF ⊢
  refine at_seq ?_
  refine at_seq ?_
  refine at_region ?_
  refine sxk 2 tabOK rfl ?_
  refine sv rfl (oc_len cInt tabOK rfl rfl rfl) rfl ?_
  refine sxk 1 tabOK rfl ?_
  refine aops_nil ?_
  refine ct_if hF rfl (fun hc hF => ?_) (fun hc hF => ?_)
  · refine at_skip ?_
    refine at_seq ?_
    refine at_block ?_
    refine at_region ?_
    refine sxk 4 tabOK rfl ?_
    obtain ⟨x5, hn_x5, hF⟩ := bnd_some hF
    refine sv rfl (oc_addr cInt hn_x5 tabOK rfl rfl rfl rfl) rfl ?_
    refine sxk 1 tabOK rfl ?_
    obtain ⟨x6, hn_x6, hF⟩ := bnd_some hF
    refine sv rfl (oc_haddr cInt hn_x6 tabOK rfl rfl rfl rfl) rfl ?_
    refine sc_store cInt (v' := x5) hn_x6 tabOK rfl rfl rfl rfl rfl rfl rfl rfl ?_
    refine ops_le (le_slot (y := .hsl 3 0 (out3.set i2.toNat x5).length) 3 rfl (vle_eq (congrArg (V.hsl 3 0) (by simp))) rfl) ?_
    refine aops_nil ?_
    refine bk_n ?_
    refine at_keep [0, 3, 4] rfl ?_
    refine at_region ?_
    refine sxk 1 tabOK rfl ?_
    obtain ⟨hb, hF⟩ := chk_some hF
    refine s_add tabOK rfl rfl rfl hb rfl ?_
    refine sxk 1 tabOK rfl ?_
    refine aops_nil ?_
    exact arr_loop ⟨((i2 + 1), (out3.set i2.toNat x5)), hF, (le_down (down_all (ee_cons rfl rfl (cInt.ok_psl _ rfl) (ee_cons rfl rfl (Nat.le_of_ble_eq_true rfl) (ee_cons rfl rfl rfl ee_nil))) (he_cons rfl rfl rfl (cInt.rows_ok _ rfl) he_nil) rfl rfl rfl rfl))⟩
  · refine at_exit ?_
    refine tk_x ?_
    refine ll_x ?_
    refine bk_hit ?_
    refine at_seq ?_
    refine at_region ?_
    refine sxk 2 tabOK rfl ?_
    refine aops_nil ?_
    refine at_le (le_freeze 2 rfl rfl (by simp) rfl) ?_
    refine at_ret ?_
    obtain rfl := Option.some.inj hF
    refine ret_le rfl ?_
    exact (vle_refl _)

theorem w_toValue_ok (a : PVal) (q : PVal) (hF : w_toValue a = some q) : FC Try.prog 21 [.agg (cVal.row 0 a)] [] 3 (fun x _ => x = .agg (cVal.row 1 q)) := by
  refine FC.of_le ?_
  refine fc_body tabOK Try.func21 rfl Try.ntmps21 rfl rfl rfl ?_
  unfold w_toValue at hF
  refine at_seq ?_
  refine at_region ?_
  refine sxk 2 tabOK rfl ?_
  refine aops_nil ?_
  refine at_seq ?_
  refine at_region ?_
  refine sxk 1 tabOK rfl ?_
  refine aops_nil ?_
  refine at_seq ?_
  refine at_region ?_
  refine sxk 4 tabOK rfl ?_
  refine aops_nil ?_
  refine at_seq ?_
  refine at_region ?_
  refine sxk 4 tabOK rfl ?_
  refine aops_nil ?_
  refine at_seq ?_
  refine at_keep [1, 2, 3] rfl ?_
  refine at_region ?_
  refine sxk 4 tabOK rfl ?_
  refine aops_nil ?_
  refine at_seq ?_
  refine at_region ?_
  refine sxk 2 tabOK rfl ?_
  refine aops_nil ?_
  refine at_ret ?_
  obtain rfl := Option.some.inj hF
  refine ret_le rfl ?_
  exact (vle_refl _)

theorem w_toPair_ok (a : PPair) (q : PPair) (hF : w_toPair a = some q) : FC Try.prog 60 [.agg (cPair.row 0 a)] [] 3 (fun x _ => x = .agg (cPair.row 1 q)) := by
  refine FC.of_le ?_
  refine fc_body tabOK Try.func60 rfl Try.ntmps60 rfl rfl rfl ?_
  unfold w_toPair at hF
  refine at_seq ?_
  refine at_region ?_
  refine sxk 2 tabOK rfl ?_
  refine aops_nil ?_
  refine at_seq ?_
  refine at_region ?_
  refine sxk 1 tabOK rfl ?_
  refine aops_nil ?_
  refine at_seq ?_
  refine at_region ?_
  refine sxk 2 tabOK rfl ?_
  obtain ⟨x2, hx2, hF⟩ := bnd_some hF
  refine call_eq (w_toValue_ok a.h x2 hx2) rfl ((rlL_cons (cVal.rl_agg (l := 0) (l' := 0) _ a.h rfl) rlL_nil)) (cVal.rl_agg (l := 1) (l' := 1) _ x2 rfl) rfl ?_
  refine sxk 2 tabOK rfl ?_
  refine aops_nil ?_
  refine at_seq ?_
  refine at_region ?_
  refine sxk 2 tabOK rfl ?_
  obtain ⟨x3, hx3, hF⟩ := bnd_some hF
  refine call_eq (w_toValue_ok a.t x3 hx3) rfl ((rlL_cons (cVal.rl_agg (l := 0) (l' := 0) _ a.t rfl) rlL_nil)) (cVal.rl_agg (l := 1) (l' := 1) _ x3 rfl) rfl ?_
  refine sxk 2 tabOK rfl ?_
  refine aops_nil ?_
  refine at_seq ?_
  refine at_keep [2, 3] rfl ?_
  refine at_region ?_
  refine sxk 2 tabOK rfl ?_
  refine aops_nil ?_
  refine at_ret ?_
  obtain rfl := Option.some.inj hF
  refine ret_le rfl ?_
  exact (vle_refl _)

theorem w_toPairS_ok (a : List PPair) (q : List PPair) (hF : w_toPairS a = some q) : FC Try.prog 16 [.psl 0 6 (a.map (cPair.enc 0))] [] 3 (fun x _ => x = .psl 1 6 (q.map (cPair.enc 1))) := by
  refine FC.of_le ?_
  refine fc_body tabOK Try.func16 rfl Try.ntmps16 rfl rfl rfl ?_
  unfold w_toPairS at hF
  refine at_seq ?_
  refine at_region ?_
  refine sxk 1 tabOK rfl ?_
  refine aops_nil ?_
  refine at_seq ?_
  refine at_region ?_
  refine sxk 1 tabOK rfl ?_
  refine sv rfl (oc_len cPair tabOK rfl rfl rfl) rfl ?_
  obtain ⟨hb, hF⟩ := chk_some hF
  refine sc_make cPair (l := 0) (v := ((PPair.mk (PVal.mk 0 0 ([] : List UInt8)) (PVal.mk 0 0 ([] : List UInt8))) : PPair)) hb tabOK rfl rfl rfl rfl (vleL_refl _) rfl rfl rfl ?_
  refine sxk 1 tabOK rfl ?_
  refine aops_nil ?_
  refine at_seq ?_
  refine at_seq ?_
  refine at_region ?_
  refine sxk 1 tabOK rfl ?_
  refine aops_nil ?_
  refine at_block ?_
  refine cl_loop (σ := Int × List PPair) (fun v => match v with | (i2, out3) => ⟨[(0, .psl 0 6 (a.map (cPair.enc 0))), (3, .hsl 3 0 out3.length), (4, .int .i64 i2)], [(3, ⟨6, out3.map (cPair.enc 0)⟩)], 4, 23, []⟩) (w_toPairS_L1 a) LF (0, (List.replicate (a.length : Int).toNat ((PPair.mk (PVal.mk 0 0 ([] : List UInt8)) (PVal.mk 0 0 ([] : List UInt8))) : PPair))) hF (le_down (down_all (ee_cons rfl rfl (cPair.ok_psl _ rfl) (ee_cons rfl rfl (Nat.le_of_ble_eq_true rfl) (ee_cons rfl rfl rfl ee_nil))) (he_cons rfl rfl rfl (cPair.rows_ok _ rfl) he_nil) rfl rfl rfl rfl)) ?_
  rintro lk_ ⟨i2, out3⟩ hF
  refine at_eq (s' := ⟨[(0, .psl 0 6 (a.map (cPair.enc 0))), (3, .hsl 3 0 out3.length), (4, .int .i64 i2)], [(3, ⟨6, out3.map (cPair.enc 0)⟩)], 4, 23, []⟩) rfl ?_
  replace hF : w_toPairS_L1b a (itr (w_toPairS_L1 a) lk_) i2 out3 = some q := hF
  unfold w_toPairS_L1b at hF
  generalize itr (w_toPairS_L1 a) lk_ = go4 at hF ⊢
  refine at_seq ?_
  refine at_seq ?_
  refine at_region ?_
  refine sxk 2 tabOK rfl ?_
  refine sv rfl (oc_len cPair tabOK rfl rfl rfl) rfl ?_
  refine sxk 1 tabOK rfl ?_
  refine aops_nil ?_
  refine ct_if hF rfl (fun hc hF => ?_) (fun hc hF => ?_)
  · refine at_skip ?_
    refine at_seq ?_
    refine at_block ?_
    refine at_region ?_
    refine sxk 4 tabOK rfl ?_
    obtain ⟨x5, hn_x5, hF⟩ := bnd_some hF
    refine sv rfl (oc_addr cPair hn_x5 tabOK rfl rfl rfl rfl) rfl ?_
    refine sxk 1 tabOK rfl ?_
    obtain ⟨x6, hx6, hF⟩ := bnd_some hF
    refine call_eq (w_toPair_ok x5 x6 hx6) rfl ((rlL_cons (cPair.rl_agg (l := 0) (l' := 0) _ x5 rfl) rlL_nil)) (cPair.rl_agg (l := 1) (l' := 1) _ x6 rfl) rfl ?_
    obtain ⟨x7, hn_x7, hF⟩ := bnd_some hF
    refine sv rfl (oc_haddr cPair hn_x7 tabOK rfl rfl rfl rfl) rfl ?_
    refine sc_store cPair (v' := x6) hn_x7 tabOK rfl rfl rfl rfl rfl rfl rfl rfl ?_
    refine ops_le (le_slot (y := .hsl 3 0 (out3.set i2.toNat x6).length) 3 rfl (vle_eq (congrArg (V.hsl 3 0) (by simp))) rfl) ?_
    refine aops_nil ?_
    refine bk_n ?_
    refine at_keep [0, 3, 4] rfl ?_
    refine at_region ?_
    refine sxk 1 tabOK rfl ?_
    obtain ⟨hb, hF⟩ := chk_some hF
    refine s_add tabOK rfl rfl rfl hb rfl ?_
    refine sxk 1 tabOK rfl ?_
    refine aops_nil ?_
    exact arr_loop ⟨((i2 + 1), (out3.set i2.toNat x6)), hF, (le_down (down_all (ee_cons rfl rfl (cPair.ok_psl _ rfl) (ee_cons rfl rfl (Nat.le_of_ble_eq_true rfl) (ee_cons rfl rfl rfl ee_nil))) (he_cons rfl rfl rfl (cPair.rows_ok _ rfl) he_nil) rfl rfl rfl rfl))⟩
  · refine at_exit ?_
    refine tk_x ?_
    refine ll_x ?_
    refine bk_hit ?_
    refine at_seq ?_
    refine at_region ?_
    refine sxk 2 tabOK rfl ?_
    refine aops_nil ?_
    refine at_le (le_freeze 2 rfl rfl (by simp) rfl) ?_
    refine at_ret ?_
    obtain rfl := Option.some.inj hF
    refine ret_le rfl ?_
    exact (vle_refl _)

theorem w_toDatum_bok (w_toDatum : PDat → Option PDat) (w_toDatumS : List PDat → Option (List PDat)) (h_w_toDatum : ∀ (a : PDat) (q : PDat), w_toDatum a = some q → FC Try.prog 35 [.agg (cDat.row 0 a)] [] 3 (fun x _ => x = .agg (cDat.row 1 q))) (h_w_toDatumS : ∀ (a : List PDat) (q : List PDat), w_toDatumS a = some q → FC Try.prog 73 [.psl 0 4 (a.map (cDat.enc 0))] [] 3 (fun x _ => x = .psl 1 4 (q.map (cDat.enc 1)))) (a : PDat) (q : PDat) (hF : w_toDatum_b w_toDatum w_toDatumS a = some q) : FC Try.prog 35 [.agg (cDat.row 0 a)] [] 3 (fun x _ => x = .agg (cDat.row 1 q)) := by
  refine FC.of_le ?_
  refine fc_body tabOK Try.func35 rfl Try.ntmps35 rfl rfl rfl ?_
  unfold w_toDatum_b at hF
  refine at_seq ?_
  refine at_region ?_
  refine sxk 2 tabOK rfl ?_
  refine aops_nil ?_
  refine at_seq ?_
  refine at_region ?_
  refine sxk 1 tabOK rfl ?_
  refine aops_nil ?_
  refine at_seq ?_
  refine at_region ?_
  refine sxk 4 tabOK rfl ?_
  refine aops_nil ?_
  refine at_seq ?_
  refine at_region ?_
  refine sxk 4 tabOK rfl ?_
  refine aops_nil ?_
  refine at_seq ?_
  refine at_keep [1, 2, 3] rfl ?_
  refine at_region ?_
  refine sxk 4 tabOK rfl ?_
  refine aops_nil ?_
  refine at_seq ?_
  refine at_region ?_
  refine sxk 2 tabOK rfl ?_
  obtain ⟨x4, hx4, hF⟩ := bnd_some hF
  refine call_eq (h_w_toDatumS a.items x4 hx4) rfl ((rlL_cons (cDat.rl_psl (l := 0) (l' := 0) _ a.items rfl) rlL_nil)) (cDat.rl_psl (l := 1) (l' := 1) _ x4 rfl) rfl ?_
  refine sxk 2 tabOK rfl ?_
  refine aops_nil ?_
  refine at_seq ?_
  refine at_keep [2, 3] rfl ?_
  refine at_region ?_
  refine sxk 2 tabOK rfl ?_
  refine aops_nil ?_
  refine at_ret ?_
  obtain rfl := Option.some.inj hF
  refine ret_le rfl ?_
  exact (vle_refl _)

theorem w_toDatumS_bok (w_toDatum : PDat → Option PDat) (w_toDatumS : List PDat → Option (List PDat)) (h_w_toDatum : ∀ (a : PDat) (q : PDat), w_toDatum a = some q → FC Try.prog 35 [.agg (cDat.row 0 a)] [] 3 (fun x _ => x = .agg (cDat.row 1 q))) (h_w_toDatumS : ∀ (a : List PDat) (q : List PDat), w_toDatumS a = some q → FC Try.prog 73 [.psl 0 4 (a.map (cDat.enc 0))] [] 3 (fun x _ => x = .psl 1 4 (q.map (cDat.enc 1)))) (a : List PDat) (q : List PDat) (hF : w_toDatumS_b w_toDatum w_toDatumS a = some q) : FC Try.prog 73 [.psl 0 4 (a.map (cDat.enc 0))] [] 3 (fun x _ => x = .psl 1 4 (q.map (cDat.enc 1))) := by
  refine FC.of_le ?_
  refine fc_body tabOK Try.func73 rfl Try.ntmps73 rfl rfl rfl ?_
  unfold w_toDatumS_b at hF
  refine at_seq ?_
  refine at_region ?_
  refine sxk 1 tabOK rfl ?_
  refine aops_nil ?_
  refine at_seq ?_
  refine at_region ?_
  refine sxk 1 tabOK rfl ?_
  refine sv rfl (oc_len cDat tabOK rfl rfl rfl) rfl ?_
  obtain ⟨hb, hF⟩ := chk_some hF
  refine sc_make cDat (l := 1) (v := ((PDat.mk 0 0 ([] : List UInt8) []) : PDat)) hb tabOK rfl rfl rfl rfl (.cons (vle_refl _) (.cons (vle_refl _) (.cons (vle_refl _) (.cons (vle_nil _ _) .nil)))) rfl rfl rfl ?_
  refine sxk 1 tabOK rfl ?_
  refine aops_nil ?_
  refine at_seq ?_
  refine at_seq ?_
  refine at_region ?_
  refine sxk 1 tabOK rfl ?_
  refine aops_nil ?_
  refine at_block ?_
  refine cl_loop (σ := Int × List PDat) (fun v => match v with | (i4, out5) => ⟨[(0, .psl 0 4 (a.map (cDat.enc 0))), (3, .hsl 3 0 out5.length), (4, .int .i64 i4)], [(3, ⟨4, out5.map (cDat.enc 1)⟩)], 4, 23, []⟩) (w_toDatumS_L1 w_toDatum a) LF (0, (List.replicate (a.length : Int).toNat ((PDat.mk 0 0 ([] : List UInt8) []) : PDat))) hF (le_down (down_all (ee_cons rfl rfl (cDat.ok_psl _ rfl) (ee_cons rfl rfl (Nat.le_of_ble_eq_true rfl) (ee_cons rfl rfl rfl ee_nil))) (he_cons rfl rfl rfl (cDat.rows_ok _ rfl) he_nil) rfl rfl rfl rfl)) ?_
  rintro lk_ ⟨i4, out5⟩ hF
  refine at_eq (s' := ⟨[(0, .psl 0 4 (a.map (cDat.enc 0))), (3, .hsl 3 0 out5.length), (4, .int .i64 i4)], [(3, ⟨4, out5.map (cDat.enc 1)⟩)], 4, 23, []⟩) rfl ?_
  replace hF : w_toDatumS_L1b w_toDatum a (itr (w_toDatumS_L1 w_toDatum a) lk_) i4 out5 = some q := hF
  unfold w_toDatumS_L1b at hF
  generalize itr (w_toDatumS_L1 w_toDatum a) lk_ = go6 at hF ⊢
  refine at_seq ?_
  refine at_seq ?_
  refine at_region ?_
  refine sxk 2 tabOK rfl ?_
  refine sv rfl (oc_len cDat tabOK rfl rfl rfl) rfl ?_
  refine sxk 1 tabOK rfl ?_
  refine aops_nil ?_
  refine ct_if hF rfl (fun hc hF => ?_) (fun hc hF => ?_)
  · refine at_skip ?_
    refine at_seq ?_
    refine at_block ?_
    refine at_region ?_
    refine sxk 4 tabOK rfl ?_
    obtain ⟨x7, hn_x7, hF⟩ := bnd_some hF
    refine sv rfl (oc_addr cDat hn_x7 tabOK rfl rfl rfl rfl) rfl ?_
    refine sxk 1 tabOK rfl ?_
    obtain ⟨x8, hx8, hF⟩ := bnd_some hF
    refine call_eq (h_w_toDatum x7 x8 hx8) rfl ((rlL_cons (cDat.rl_agg (l := 0) (l' := 0) _ x7 rfl) rlL_nil)) (cDat.rl_agg (l := 1) (l' := 1) _ x8 rfl) rfl ?_
    obtain ⟨x9, hn_x9, hF⟩ := bnd_some hF
    refine sv rfl (oc_haddr cDat hn_x9 tabOK rfl rfl rfl rfl) rfl ?_
    refine sc_store cDat (v' := x8) hn_x9 tabOK rfl rfl rfl rfl rfl rfl rfl rfl ?_
    refine ops_le (le_slot (y := .hsl 3 0 (out5.set i4.toNat x8).length) 3 rfl (vle_eq (congrArg (V.hsl 3 0) (by simp))) rfl) ?_
    refine aops_nil ?_
    refine bk_n ?_
    refine at_keep [0, 3, 4] rfl ?_
    refine at_region ?_
    refine sxk 1 tabOK rfl ?_
    obtain ⟨hb, hF⟩ := chk_some hF
    refine s_add tabOK rfl rfl rfl hb rfl ?_
    refine sxk 1 tabOK rfl ?_
    refine aops_nil ?_
    exact arr_loop ⟨((i4 + 1), (out5.set i4.toNat x8)), hF, (le_down (down_all (ee_cons rfl rfl (cDat.ok_psl _ rfl) (ee_cons rfl rfl (Nat.le_of_ble_eq_true rfl) (ee_cons rfl rfl rfl ee_nil))) (he_cons rfl rfl rfl (cDat.rows_ok _ rfl) he_nil) rfl rfl rfl rfl))⟩
  · refine at_exit ?_
    refine tk_x ?_
    refine ll_x ?_
    refine bk_hit ?_
    refine at_seq ?_
    refine at_region ?_
    refine sxk 2 tabOK rfl ?_
    refine aops_nil ?_
    refine at_le (le_freeze 2 rfl rfl (by simp) rfl) ?_
    refine at_ret ?_
    obtain rfl := Option.some.inj hF
    refine ret_le rfl ?_
    exact (vle_refl _)

theorem w_toDatum_all (n : Nat) : (∀ (a : PDat) (q : PDat), w_toDatum n a = some q → FC Try.prog 35 [.agg (cDat.row 0 a)] [] 3 (fun x _ => x = .agg (cDat.row 1 q))) ∧ (∀ (a : List PDat) (q : List PDat), w_toDatumS n a = some q → FC Try.prog 73 [.psl 0 4 (a.map (cDat.enc 0))] [] 3 (fun x _ => x = .psl 1 4 (q.map (cDat.enc 1)))) := by
  induction n with
  | zero => exact ⟨(fun _ q h => by cases h), (fun _ q h => by cases h)⟩
  | succ n ih => exact ⟨fun a q h => w_toDatum_bok (w_toDatum n) (w_toDatumS n) ih.1 ih.2 a q h, fun a q h => w_toDatumS_bok (w_toDatum n) (w_toDatumS n) ih.1 ih.2 a q h⟩

theorem w_toDatum_ok (n : Nat) (a : PDat) (q : PDat) (hF : w_toDatum n a = some q) : FC Try.prog 35 [.agg (cDat.row 0 a)] [] 3 (fun x _ => x = .agg (cDat.row 1 q)) := (w_toDatum_all n).1 a q hF

theorem w_toDatumS_ok (n : Nat) (a : List PDat) (q : List PDat) (hF : w_toDatumS n a = some q) : FC Try.prog 73 [.psl 0 4 (a.map (cDat.enc 0))] [] 3 (fun x _ => x = .psl 1 4 (q.map (cDat.enc 1))) := (w_toDatum_all n).2 a q hF

theorem w_toInstr_ok (a : PInstr) (q : PInstr) (hF : w_toInstr a = some q) : FC Try.prog 133 [.agg (cInstr.row 0 a)] [] 3 (fun x _ => x = .agg (cInstr.row 1 q)) := by
  refine FC.of_le ?_
  refine fc_body tabOK Try.func133 rfl Try.ntmps133 rfl rfl rfl ?_
  unfold w_toInstr at hF
  refine at_seq ?_
  refine at_region ?_
  refine sxk 2 tabOK rfl ?_
  refine aops_nil ?_
  refine at_seq ?_
  refine at_region ?_
  refine sxk 1 tabOK rfl ?_
  refine aops_nil ?_
  refine at_seq ?_
  refine at_region ?_
  refine sxk 4 tabOK rfl ?_
  refine aops_nil ?_
  refine at_seq ?_
  refine at_region ?_
  refine sxk 4 tabOK rfl ?_
  refine aops_nil ?_
  refine at_seq ?_
  refine at_keep [1, 2, 3] rfl ?_
  refine at_region ?_
  refine sxk 2 tabOK rfl ?_
  obtain ⟨x2, hx2, hF⟩ := bnd_some hF
  refine call_eq (w_toDatum_ok RF a.d x2 hx2) rfl ((rlL_cons (cDat.rl_agg (l := 0) (l' := 0) _ a.d rfl) rlL_nil)) (cDat.rl_agg (l := 1) (l' := 1) _ x2 rfl) rfl ?_
  refine sxk 2 tabOK rfl ?_
  refine aops_nil ?_
  refine at_seq ?_
  refine at_region ?_
  refine sxk 2 tabOK rfl ?_
  refine aops_nil ?_
  refine at_ret ?_
  obtain rfl := Option.some.inj hF
  refine ret_le rfl ?_
  exact (vle_refl _)

theorem w_toInstrS_ok (a : List PInstr) (q : List PInstr) (hF : w_toInstrS a = some q) : FC Try.prog 127 [.psl 0 6 (a.map (cInstr.enc 0))] [] 3 (fun x _ => x = .psl 1 6 (q.map (cInstr.enc 1))) := by
  refine FC.of_le ?_
  refine fc_body tabOK Try.func127 rfl Try.ntmps127 rfl rfl rfl ?_
  unfold w_toInstrS at hF
  refine at_seq ?_
  refine at_region ?_
  refine sxk 1 tabOK rfl ?_
  refine aops_nil ?_
  refine at_seq ?_
  refine at_region ?_
  refine sxk 1 tabOK rfl ?_
  refine sv rfl (oc_len cInstr tabOK rfl rfl rfl) rfl ?_
  obtain ⟨hb, hF⟩ := chk_some hF
  refine sc_make cInstr (l := 1) (v := ((PInstr.mk 0 0 (PDat.mk 0 0 ([] : List UInt8) [])) : PInstr)) hb tabOK rfl rfl rfl rfl (.cons (vle_refl _) (.cons (vle_refl _) (.cons (vle_refl _) (.cons (vle_refl _) (.cons (vle_refl _) (.cons (vle_nil _ _) .nil)))))) rfl rfl rfl ?_
  refine sxk 1 tabOK rfl ?_
  refine aops_nil ?_
  refine at_seq ?_
  refine at_seq ?_
  refine at_region ?_
  refine sxk 1 tabOK rfl ?_
  refine aops_nil ?_
  refine at_block ?_
  refine cl_loop (σ := Int × List PInstr) (fun v => match v with | (i2, out3) => ⟨[(0, .psl 0 6 (a.map (cInstr.enc 0))), (3, .hsl 3 0 out3.length), (4, .int .i64 i2)], [(3, ⟨6, out3.map (cInstr.enc 1)⟩)], 4, 23, []⟩) (w_toInstrS_L1 a) LF (0, (List.replicate (a.length : Int).toNat ((PInstr.mk 0 0 (PDat.mk 0 0 ([] : List UInt8) [])) : PInstr))) hF (le_down (down_all (ee_cons rfl rfl (cInstr.ok_psl _ rfl) (ee_cons rfl rfl (Nat.le_of_ble_eq_true rfl) (ee_cons rfl rfl rfl ee_nil))) (he_cons rfl rfl rfl (cInstr.rows_ok _ rfl) he_nil) rfl rfl rfl rfl)) ?_
  rintro lk_ ⟨i2, out3⟩ hF
  refine at_eq (s' := ⟨[(0, .psl 0 6 (a.map (cInstr.enc 0))), (3, .hsl 3 0 out3.length), (4, .int .i64 i2)], [(3, ⟨6, out3.map (cInstr.enc 1)⟩)], 4, 23, []⟩) rfl ?_
  replace hF : w_toInstrS_L1b a (itr (w_toInstrS_L1 a) lk_) i2 out3 = some q := hF
  unfold w_toInstrS_L1b at hF
  generalize itr (w_toInstrS_L1 a) lk_ = go4 at hF ⊢
  refine at_seq ?_
  refine at_seq ?_
  refine at_region ?_
  refine sxk 2 tabOK rfl ?_
  refine sv rfl (oc_len cInstr tabOK rfl rfl rfl) rfl ?_
  refine sxk 1 tabOK rfl ?_
  refine aops_nil ?_
  refine ct_if hF rfl (fun hc hF => ?_) (fun hc hF => ?_)
  · refine at_skip ?_
    refine at_seq ?_
    refine at_block ?_
    refine at_region ?_
    refine sxk 4 tabOK rfl ?_
    obtain ⟨x5, hn_x5, hF⟩ := bnd_some hF
    refine sv rfl (oc_addr cInstr hn_x5 tabOK rfl rfl rfl rfl) rfl ?_
    refine sxk 1 tabOK rfl ?_
    obtain ⟨x6, hx6, hF⟩ := bnd_some hF
    refine call_eq (w_toInstr_ok x5 x6 hx6) rfl ((rlL_cons (cInstr.rl_agg (l := 0) (l' := 0) _ x5 rfl) rlL_nil)) (cInstr.rl_agg (l := 1) (l' := 1) _ x6 rfl) rfl ?_
    obtain ⟨x7, hn_x7, hF⟩ := bnd_some hF
    refine sv rfl (oc_haddr cInstr hn_x7 tabOK rfl rfl rfl rfl) rfl ?_
    refine sc_store cInstr (v' := x6) hn_x7 tabOK rfl rfl rfl rfl rfl rfl rfl rfl ?_
    refine ops_le (le_slot (y := .hsl 3 0 (out3.set i2.toNat x6).length) 3 rfl (vle_eq (congrArg (V.hsl 3 0) (by simp))) rfl) ?_
    refine aops_nil ?_
    refine bk_n ?_
    refine at_keep [0, 3, 4] rfl ?_
    refine at_region ?_
    refine sxk 1 tabOK rfl ?_
    obtain ⟨hb, hF⟩ := chk_some hF
    refine s_add tabOK rfl rfl rfl hb rfl ?_
    refine sxk 1 tabOK rfl ?_
    refine aops_nil ?_
    exact arr_loop ⟨((i2 + 1), (out3.set i2.toNat x6)), hF, (le_down (down_all (ee_cons rfl rfl (cInstr.ok_psl _ rfl) (ee_cons rfl rfl (Nat.le_of_ble_eq_true rfl) (ee_cons rfl rfl rfl ee_nil))) (he_cons rfl rfl rfl (cInstr.rows_ok _ rfl) he_nil) rfl rfl rfl rfl))⟩
  · refine at_exit ?_
    refine tk_x ?_
    refine ll_x ?_
    refine bk_hit ?_
    refine at_seq ?_
    refine at_region ?_
    refine sxk 2 tabOK rfl ?_
    refine aops_nil ?_
    refine at_le (le_freeze 2 rfl rfl (by simp) rfl) ?_
    refine at_ret ?_
    obtain rfl := Option.some.inj hF
    refine ret_le rfl ?_
    exact (vle_refl _)

theorem w_toCode_ok (a : PCode) (q : PCode) (hF : w_toCode a = some q) : FC Try.prog 104 [.agg (cCode.row 0 a)] [] 3 (fun x _ => x = .agg (cCode.row 1 q)) := by
  refine FC.of_le ?_
  refine fc_body tabOK Try.func104 rfl Try.ntmps104 rfl rfl rfl ?_
  unfold w_toCode at hF
  refine at_seq ?_
  refine at_region ?_
  refine sxk 2 tabOK rfl ?_
  refine aops_nil ?_
  refine at_seq ?_
  refine at_region ?_
  refine sxk 1 tabOK rfl ?_
  refine aops_nil ?_
  refine at_seq ?_
  refine at_region ?_
  refine sxk 4 tabOK rfl ?_
  refine aops_nil ?_
  refine at_seq ?_
  refine at_region ?_
  refine sxk 4 tabOK rfl ?_
  refine aops_nil ?_
  refine at_seq ?_
  refine at_keep [1, 2, 3] rfl ?_
  refine at_region ?_
  refine sxk 4 tabOK rfl ?_
  refine aops_nil ?_
  refine at_seq ?_
  refine at_region ?_
  refine sxk 2 tabOK rfl ?_
  obtain ⟨x2, hx2, hF⟩ := bnd_some hF
  refine call_eq (w_toInstrS_ok a.instrs x2 hx2) rfl ((rlL_cons (cInstr.rl_psl (l := 0) (l' := 0) _ a.instrs rfl) rlL_nil)) (cInstr.rl_psl (l := 1) (l' := 1) _ x2 rfl) rfl ?_
  refine sxk 2 tabOK rfl ?_
  refine aops_nil ?_
  refine at_seq ?_
  refine at_keep [2, 3] rfl ?_
  refine at_region ?_
  refine sxk 2 tabOK rfl ?_
  refine aops_nil ?_
  refine at_ret ?_
  obtain rfl := Option.some.inj hF
  refine ret_le rfl ?_
  exact (vle_refl _)

theorem w_toCodeS_ok (a : List PCode) (q : List PCode) (hF : w_toCodeS a = some q) : FC Try.prog 64 [.psl 0 4 (a.map (cCode.enc 0))] [] 3 (fun x _ => x = .psl 1 4 (q.map (cCode.enc 1))) := by
  refine FC.of_le ?_
  refine fc_body tabOK Try.func64 rfl Try.ntmps64 rfl rfl rfl ?_
  unfold w_toCodeS at hF
  refine at_seq ?_
  refine at_region ?_
  refine sxk 1 tabOK rfl ?_
  refine aops_nil ?_
  refine at_seq ?_
  refine at_region ?_
  refine sxk 1 tabOK rfl ?_
  refine sv rfl (oc_len cCode tabOK rfl rfl rfl) rfl ?_
  obtain ⟨hb, hF⟩ := chk_some hF
  refine sc_make cCode (l := 1) (v := ((PCode.mk 0 0 0 []) : PCode)) hb tabOK rfl rfl rfl rfl (.cons (vle_refl _) (.cons (vle_refl _) (.cons (vle_refl _) (.cons (vle_nil _ _) .nil)))) rfl rfl rfl ?_
  refine sxk 1 tabOK rfl ?_
  refine aops_nil ?_
  refine at_seq ?_
  refine at_seq ?_
  refine at_region ?_
  refine sxk 1 tabOK rfl ?_
  refine aops_nil ?_
  refine at_block ?_
  refine cl_loop (σ := Int × List PCode) (fun v => match v with | (i2, out3) => ⟨[(0, .psl 0 4 (a.map (cCode.enc 0))), (3, .hsl 3 0 out3.length), (4, .int .i64 i2)], [(3, ⟨4, out3.map (cCode.enc 1)⟩)], 4, 23, []⟩) (w_toCodeS_L1 a) LF (0, (List.replicate (a.length : Int).toNat ((PCode.mk 0 0 0 []) : PCode))) hF (le_down (down_all (ee_cons rfl rfl (cCode.ok_psl _ rfl) (ee_cons rfl rfl (Nat.le_of_ble_eq_true rfl) (ee_cons rfl rfl rfl ee_nil))) (he_cons rfl rfl rfl (cCode.rows_ok _ rfl) he_nil) rfl rfl rfl rfl)) ?_
  rintro lk_ ⟨i2, out3⟩ hF
  refine at_eq (s' := ⟨[(0, .psl 0 4 (a.map (cCode.enc 0))), (3, .hsl 3 0 out3.length), (4, .int .i64 i2)], [(3, ⟨4, out3.map (cCode.enc 1)⟩)], 4, 23, []⟩) rfl ?_
  replace hF : w_toCodeS_L1b a (itr (w_toCodeS_L1 a) lk_) i2 out3 = some q := hF
  unfold w_toCodeS_L1b at hF
  generalize itr (w_toCodeS_L1 a) lk_ = go4 at hF ⊢
  refine at_seq ?_
  refine at_seq ?_
  refine at_region ?_
  refine sxk 2 tabOK rfl ?_
  refine sv rfl (oc_len cCode tabOK rfl rfl rfl) rfl ?_
  refine sxk 1 tabOK rfl ?_
  refine aops_nil ?_
  refine ct_if hF rfl (fun hc hF => ?_) (fun hc hF => ?_)
  · refine at_skip ?_
    refine at_seq ?_
    refine at_block ?_
    refine at_region ?_
    refine sxk 4 tabOK rfl ?_
    obtain ⟨x5, hn_x5, hF⟩ := bnd_some hF
    refine sv rfl (oc_addr cCode hn_x5 tabOK rfl rfl rfl rfl) rfl ?_
    refine sxk 1 tabOK rfl ?_
    obtain ⟨x6, hx6, hF⟩ := bnd_some hF
    refine call_eq (w_toCode_ok x5 x6 hx6) rfl ((rlL_cons (cCode.rl_agg (l := 0) (l' := 0) _ x5 rfl) rlL_nil)) (cCode.rl_agg (l := 1) (l' := 1) _ x6 rfl) rfl ?_
    obtain ⟨x7, hn_x7, hF⟩ := bnd_some hF
    refine sv rfl (oc_haddr cCode hn_x7 tabOK rfl rfl rfl rfl) rfl ?_
    refine sc_store cCode (v' := x6) hn_x7 tabOK rfl rfl rfl rfl rfl rfl rfl rfl ?_
    refine ops_le (le_slot (y := .hsl 3 0 (out3.set i2.toNat x6).length) 3 rfl (vle_eq (congrArg (V.hsl 3 0) (by simp))) rfl) ?_
    refine aops_nil ?_
    refine bk_n ?_
    refine at_keep [0, 3, 4] rfl ?_
    refine at_region ?_
    refine sxk 1 tabOK rfl ?_
    obtain ⟨hb, hF⟩ := chk_some hF
    refine s_add tabOK rfl rfl rfl hb rfl ?_
    refine sxk 1 tabOK rfl ?_
    refine aops_nil ?_
    exact arr_loop ⟨((i2 + 1), (out3.set i2.toNat x6)), hF, (le_down (down_all (ee_cons rfl rfl (cCode.ok_psl _ rfl) (ee_cons rfl rfl (Nat.le_of_ble_eq_true rfl) (ee_cons rfl rfl rfl ee_nil))) (he_cons rfl rfl rfl (cCode.rows_ok _ rfl) he_nil) rfl rfl rfl rfl))⟩
  · refine at_exit ?_
    refine tk_x ?_
    refine ll_x ?_
    refine bk_hit ?_
    refine at_seq ?_
    refine at_region ?_
    refine sxk 2 tabOK rfl ?_
    refine aops_nil ?_
    refine at_le (le_freeze 2 rfl rfl (by simp) rfl) ?_
    refine at_ret ?_
    obtain rfl := Option.some.inj hF
    refine ret_le rfl ?_
    exact (vle_refl _)

theorem w_toImage_ok (a : PImage) (q : PImage) (hF : w_toImage a = some q) : FC Try.prog 25 [.agg (cImage.row 0 a)] [] 3 (fun x _ => x = .agg (cImage.row 1 q)) := by
  refine FC.of_le ?_
  refine fc_body tabOK Try.func25 rfl Try.ntmps25 rfl rfl rfl ?_
  unfold w_toImage at hF
  refine at_seq ?_
  refine at_region ?_
  refine sxk 2 tabOK rfl ?_
  refine aops_nil ?_
  refine at_seq ?_
  refine at_region ?_
  refine sxk 1 tabOK rfl ?_
  refine aops_nil ?_
  refine at_seq ?_
  refine at_region ?_
  refine sxk 2 tabOK rfl ?_
  obtain ⟨x2, hx2, hF⟩ := bnd_some hF
  refine call_eq (w_toCodeS_ok a.codes x2 hx2) rfl ((rlL_cons (cCode.rl_psl (l := 0) (l' := 0) _ a.codes rfl) rlL_nil)) (cCode.rl_psl (l := 1) (l' := 1) _ x2 rfl) rfl ?_
  refine sxk 2 tabOK rfl ?_
  refine aops_nil ?_
  refine at_seq ?_
  refine at_region ?_
  refine sxk 4 tabOK rfl ?_
  refine aops_nil ?_
  refine at_seq ?_
  refine at_keep [2, 3] rfl ?_
  refine at_region ?_
  refine sxk 2 tabOK rfl ?_
  refine aops_nil ?_
  refine at_ret ?_
  obtain rfl := Option.some.inj hF
  refine ret_le rfl ?_
  exact (vle_refl _)

theorem w_heldIntS_ok (a : List Int) (k : Int) (q : Int) (hF : w_heldIntS a k = some q) : FC Try.prog 48 [.psl 0 1 (a.map (cInt.enc 0)), .int .i64 k] [] 3 (fun x _ => x = .int .i64 q) := by
  refine FC.of_le ?_
  refine fc_body tabOK Try.func48 rfl Try.ntmps48 rfl rfl rfl ?_
  unfold w_heldIntS at hF
  refine at_seq ?_
  refine at_region ?_
  refine sxk 1 tabOK rfl ?_
  refine aops_nil ?_
  refine at_seq ?_
  refine at_seq ?_
  refine at_region ?_
  refine sxk 1 tabOK rfl ?_
  refine aops_nil ?_
  refine at_block ?_
  refine cl_loop (σ := Int × Int) (fun v => match v with | (k3, i4) => ⟨[(0, .psl 0 1 (a.map (cInt.enc 0))), (1, .int .i64 k3), (5, .int .i64 i4)], [], 3, 21, []⟩) (w_heldIntS_L1 a) LF (k, 0) hF (le_down (down_all (ee_cons rfl rfl (cInt.ok_psl _ rfl) (ee_cons rfl rfl rfl (ee_cons rfl rfl rfl ee_nil))) he_nil rfl rfl rfl rfl)) ?_
  rintro lk_ ⟨k3, i4⟩ hF
  refine at_eq (s' := ⟨[(0, .psl 0 1 (a.map (cInt.enc 0))), (1, .int .i64 k3), (5, .int .i64 i4)], [], 3, 21, []⟩) rfl ?_
  replace hF : w_heldIntS_L1b a (itr (w_heldIntS_L1 a) lk_) k3 i4 = some q := hF
  unfold w_heldIntS_L1b at hF
  generalize itr (w_heldIntS_L1 a) lk_ = go5 at hF ⊢
  refine at_seq ?_
  refine at_seq ?_
  refine at_region ?_
  refine sxk 2 tabOK rfl ?_
  refine sv rfl (oc_len cInt tabOK rfl rfl rfl) rfl ?_
  refine sxk 1 tabOK rfl ?_
  refine aops_nil ?_
  refine ct_if hF rfl (fun hc hF => ?_) (fun hc hF => ?_)
  · refine at_skip ?_
    refine at_seq ?_
    refine at_block ?_
    refine at_seq ?_
    refine at_seq ?_
    refine at_region ?_
    refine sxk 2 tabOK rfl ?_
    obtain ⟨x6, hn_x6, hF⟩ := bnd_some hF
    refine sv rfl (oc_addr cInt hn_x6 tabOK rfl rfl rfl rfl) rfl ?_
    refine sxk 3 tabOK rfl ?_
    refine aops_nil ?_
    refine ct_ifn hF rfl (fun hc hF => ?_) (fun hc hF => ?_)
    · refine at_seq ?_
      refine at_keep [] rfl ?_
      refine at_region ?_
      refine sxk 1 tabOK rfl ?_
      refine aops_nil ?_
      refine at_ret ?_
      refine tk_r ?_
      refine bk_r ?_
      refine tk_r ?_
      refine ll_r ?_
      refine bk_r ?_
      refine tk_r ?_
      obtain rfl := Option.some.inj hF
      refine ret_le rfl ?_
      exact (vle_refl _)
    · refine at_skip ?_
      refine at_keep [0, 1, 5] rfl ?_
      refine at_region ?_
      refine sxk 1 tabOK rfl ?_
      obtain ⟨hb, hF⟩ := chk_some hF
      refine s_add tabOK rfl rfl rfl hb rfl ?_
      refine sxk 1 tabOK rfl ?_
      refine aops_nil ?_
      refine bk_n ?_
      refine at_region ?_
      refine sxk 1 tabOK rfl ?_
      obtain ⟨hb, hF⟩ := chk_some hF
      refine s_add tabOK rfl rfl rfl hb rfl ?_
      refine sxk 1 tabOK rfl ?_
      refine aops_nil ?_
      exact arr_loop ⟨((k3 + 1), (i4 + 1)), hF, (le_down (down_all (ee_cons rfl rfl (cInt.ok_psl _ rfl) (ee_cons rfl rfl rfl (ee_cons rfl rfl rfl ee_nil))) he_nil rfl rfl rfl rfl))⟩
  · refine at_exit ?_
    refine tk_x ?_
    refine ll_x ?_
    refine bk_hit ?_
    refine at_seq ?_
    refine at_region ?_
    refine sxk 2 tabOK rfl ?_
    refine aops_nil ?_
    refine at_ret ?_
    obtain rfl := Option.some.inj hF
    refine ret_le rfl ?_
    exact (vle_refl _)

end Go.Proofs.Ytiecdekmiabmkaa
