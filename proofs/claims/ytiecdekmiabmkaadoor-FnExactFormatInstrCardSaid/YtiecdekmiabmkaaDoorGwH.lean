/-
  Walks, made by wip/gen: H
-/
import Derived.Test.YtiecdekmiabmkaaDoorGpH
import Derived.Test.YtiecdekmiabmkaaDoorGwG
set_option linter.unusedVariables false
set_option linter.unusedSimpArgs false
namespace Go.Proofs.YtiecdekmiabmkaaDoor
open Go.Abs
attribute [local irreducible] AT AOps FC DR DN
set_option maxRecDepth 10000
set_option maxHeartbeats 4000000

theorem w_szDatum_bok (w_szDatum : PDat → Int → Option Int) (w_szDatumS : List PDat → Int → Option Int) (h_w_szDatum : ∀ (a : PDat) (left : Int) (q : Int), w_szDatum a left = some q → FC Tryd.prog 28 [.agg (cDat.row 0 a), .int .i64 left] [] 3 (fun x _ => x = .int .i64 q)) (h_w_szDatumS : ∀ (a : List PDat) (left : Int) (q : Int), w_szDatumS a left = some q → FC Tryd.prog 45 [.psl 0 4 (a.map (cDat.enc 0)), .int .i64 left] [] 3 (fun x _ => x = .int .i64 q)) (a : PDat) (left : Int) (q : Int) (hF : w_szDatum_b w_szDatum w_szDatumS a left = some q) : FC Tryd.prog 28 [.agg (cDat.row 0 a), .int .i64 left] [] 3 (fun x _ => x = .int .i64 q) := by
  refine FC.of_le ?_
  refine fc_body tabOK Tryd.func28 rfl Tryd.ntmps28 rfl rfl rfl ?_
  unfold w_szDatum_b at hF
  refine at_seq ?_
  refine at_region ?_
  refine sxk 2 tabOK rfl ?_
  refine aops_nil ?_
  refine at_seq ?_
  refine at_region ?_
  refine sxk 4 tabOK rfl ?_
  obtain ⟨hb, hF⟩ := chk_some hF
  refine s_sub tabOK rfl rfl rfl hb rfl ?_
  refine sxk 1 tabOK rfl ?_
  refine aops_nil ?_
  refine at_seq ?_
  refine at_seq ?_
  refine at_keep [1, 2] rfl ?_
  refine at_region ?_
  refine sxk 2 tabOK rfl ?_
  refine aops_nil ?_
  refine ct_if hF rfl (fun hc hF => ?_) (fun hc hF => ?_)
  · refine at_seq ?_
    refine at_region ?_
    refine sxk 1 tabOK rfl ?_
    refine aops_nil ?_
    refine at_ret ?_
    refine tk_r ?_
    obtain rfl := Option.some.inj hF
    refine ret_le rfl ?_
    exact (vle_refl _)
  · refine at_skip ?_
    refine at_seq ?_
    refine at_region ?_
    refine sxk 3 tabOK rfl ?_
    obtain ⟨x5, hx5, hF⟩ := bnd_some hF
    refine call_eq (h_w_szDatumS a.items (left - (a.text.length : Int)) x5 hx5) rfl ((rlL_cons (cDat.rl_psl (l := 0) (l' := 0) _ a.items rfl) (rlL_cons (rfl) rlL_nil))) rfl rfl ?_
    refine sxk 1 tabOK rfl ?_
    refine aops_nil ?_
    refine at_seq ?_
    refine at_seq ?_
    refine at_keep [1] rfl ?_
    refine at_region ?_
    refine sxk 2 tabOK rfl ?_
    refine aops_nil ?_
    refine ct_if hF rfl (fun hc hF => ?_) (fun hc hF => ?_)
    · refine at_seq ?_
      refine at_region ?_
      refine sxk 1 tabOK rfl ?_
      refine aops_nil ?_
      refine at_ret ?_
      refine tk_r ?_
      obtain rfl := Option.some.inj hF
      refine ret_le rfl ?_
      exact (vle_refl _)
    · refine at_skip ?_
      refine at_seq ?_
      refine at_region ?_
      refine sxk 2 tabOK rfl ?_
      refine aops_nil ?_
      refine at_ret ?_
      obtain rfl := Option.some.inj hF
      refine ret_le rfl ?_
      exact (vle_refl _)

theorem w_szDatumS_bok (w_szDatum : PDat → Int → Option Int) (w_szDatumS : List PDat → Int → Option Int) (h_w_szDatum : ∀ (a : PDat) (left : Int) (q : Int), w_szDatum a left = some q → FC Tryd.prog 28 [.agg (cDat.row 0 a), .int .i64 left] [] 3 (fun x _ => x = .int .i64 q)) (h_w_szDatumS : ∀ (a : List PDat) (left : Int) (q : Int), w_szDatumS a left = some q → FC Tryd.prog 45 [.psl 0 4 (a.map (cDat.enc 0)), .int .i64 left] [] 3 (fun x _ => x = .int .i64 q)) (a : List PDat) (left : Int) (q : Int) (hF : w_szDatumS_b w_szDatum w_szDatumS a left = some q) : FC Tryd.prog 45 [.psl 0 4 (a.map (cDat.enc 0)), .int .i64 left] [] 3 (fun x _ => x = .int .i64 q) := by
  refine FC.of_le ?_
  refine fc_body tabOK Tryd.func45 rfl Tryd.ntmps45 rfl rfl rfl ?_
  unfold w_szDatumS_b at hF
  refine at_seq ?_
  refine at_region ?_
  refine sxk 1 tabOK rfl ?_
  refine aops_nil ?_
  refine at_seq ?_
  refine at_region ?_
  refine sxk 2 tabOK rfl ?_
  refine sv rfl (oc_len cDat tabOK rfl rfl rfl) rfl ?_
  obtain ⟨hb, hF⟩ := chk_some hF
  refine s_sub tabOK rfl rfl rfl hb rfl ?_
  refine sxk 1 tabOK rfl ?_
  refine aops_nil ?_
  refine at_seq ?_
  refine at_seq ?_
  refine at_region ?_
  refine sxk 2 tabOK rfl ?_
  refine aops_nil ?_
  refine ct_if hF rfl (fun hc hF => ?_) (fun hc hF => ?_)
  · refine at_seq ?_
    refine at_keep [] rfl ?_
    refine at_region ?_
    refine sxk 1 tabOK rfl ?_
    refine aops_nil ?_
    refine at_ret ?_
    refine tk_r ?_
    obtain rfl := Option.some.inj hF
    refine ret_le rfl ?_
    exact (vle_refl _)
  · refine at_skip ?_
    refine at_seq ?_
    refine at_seq ?_
    refine at_keep [0, 1] rfl ?_
    refine at_region ?_
    refine sxk 1 tabOK rfl ?_
    refine aops_nil ?_
    refine at_block ?_
    refine cl_loop (σ := Int × Int) (fun v => match v with | (left5, i6) => ⟨[(0, .psl 0 4 (a.map (cDat.enc 0))), (1, .int .i64 left5), (5, .int .i64 i6)], [], 3, 27, []⟩) (w_szDatumS_L1 w_szDatum a) LF ((left - (a.length : Int)), 0) hF (le_down (down_all (ee_cons rfl rfl (cDat.ok_psl _ rfl) (ee_cons rfl rfl rfl (ee_cons rfl rfl rfl ee_nil))) he_nil rfl rfl rfl rfl)) ?_
    rintro lk_ ⟨left5, i6⟩ hF
    refine at_eq (s' := ⟨[(0, .psl 0 4 (a.map (cDat.enc 0))), (1, .int .i64 left5), (5, .int .i64 i6)], [], 3, 27, []⟩) rfl ?_
    replace hF : w_szDatumS_L1b w_szDatum a (itr (w_szDatumS_L1 w_szDatum a) lk_) left5 i6 = some q := hF
    unfold w_szDatumS_L1b at hF
    generalize itr (w_szDatumS_L1 w_szDatum a) lk_ = go7 at hF ⊢
    refine at_seq ?_
    refine at_seq ?_
    refine at_region ?_
    refine sxk 2 tabOK rfl ?_
    refine sv rfl (oc_len cDat tabOK rfl rfl rfl) rfl ?_
    refine sxk 1 tabOK rfl ?_
    refine aops_nil ?_
    refine ct_if hF rfl (fun hc hF => ?_) (fun hc hF => ?_)
    · refine at_skip ?_
      refine at_seq ?_
      refine at_block ?_
      refine at_seq ?_
      refine at_region ?_
      refine sxk 2 tabOK rfl ?_
      obtain ⟨x8, hn_x8, hF⟩ := bnd_some hF
      refine sv rfl (oc_addr cDat hn_x8 tabOK rfl rfl rfl rfl) rfl ?_
      refine sxk 2 tabOK rfl ?_
      obtain ⟨x9, hx9, hF⟩ := bnd_some hF
      refine call_eq (h_w_szDatum x8 left5 x9 hx9) rfl ((rlL_cons (cDat.rl_agg (l := 0) (l' := 0) _ x8 rfl) (rlL_cons (rfl) rlL_nil))) rfl rfl ?_
      refine sxk 1 tabOK rfl ?_
      refine aops_nil ?_
      refine at_seq ?_
      refine at_keep [0, 1, 5] rfl ?_
      refine at_region ?_
      refine sxk 2 tabOK rfl ?_
      refine aops_nil ?_
      refine ct_if hF rfl (fun hc hF => ?_) (fun hc hF => ?_)
      · refine at_seq ?_
        refine at_region ?_
        refine sxk 1 tabOK rfl ?_
        refine aops_nil ?_
        refine at_ret ?_
        refine bk_r ?_
        refine tk_r ?_
        refine ll_r ?_
        refine bk_r ?_
        refine tk_r ?_
        obtain rfl := Option.some.inj hF
        refine ret_le rfl ?_
        exact (vle_refl _)
      · refine at_skip ?_
        refine bk_n ?_
        refine at_region ?_
        refine sxk 1 tabOK rfl ?_
        obtain ⟨hb, hF⟩ := chk_some hF
        refine s_add tabOK rfl rfl rfl hb rfl ?_
        refine sxk 1 tabOK rfl ?_
        refine aops_nil ?_
        exact arr_loop ⟨(x9, (i6 + 1)), hF, (le_down (down_all (ee_cons rfl rfl (cDat.ok_psl _ rfl) (ee_cons rfl rfl rfl (ee_cons rfl rfl rfl ee_nil))) he_nil rfl rfl rfl rfl))⟩
    · refine at_exit ?_
      refine tk_x ?_
      refine ll_x ?_
      refine bk_hit ?_
      refine at_seq ?_
      refine at_region ?_
      refine sxk 2 tabOK rfl ?_
      refine aops_nil ?_
      refine at_ret ?_
      obtain rfl := Option.some.inj hF
      refine ret_le rfl ?_
      exact (vle_refl _)

theorem w_szDatum_all (n : Nat) : (∀ (a : PDat) (left : Int) (q : Int), w_szDatum n a left = some q → FC Tryd.prog 28 [.agg (cDat.row 0 a), .int .i64 left] [] 3 (fun x _ => x = .int .i64 q)) ∧ (∀ (a : List PDat) (left : Int) (q : Int), w_szDatumS n a left = some q → FC Tryd.prog 45 [.psl 0 4 (a.map (cDat.enc 0)), .int .i64 left] [] 3 (fun x _ => x = .int .i64 q)) := by
  induction n with
  | zero => exact ⟨(fun _ _ q h => by cases h), (fun _ _ q h => by cases h)⟩
  | succ n ih => exact ⟨fun a left q h => w_szDatum_bok (w_szDatum n) (w_szDatumS n) ih.1 ih.2 a left q h, fun a left q h => w_szDatumS_bok (w_szDatum n) (w_szDatumS n) ih.1 ih.2 a left q h⟩

theorem w_szDatum_ok (n : Nat) (a : PDat) (left : Int) (q : Int) (hF : w_szDatum n a left = some q) : FC Tryd.prog 28 [.agg (cDat.row 0 a), .int .i64 left] [] 3 (fun x _ => x = .int .i64 q) := (w_szDatum_all n).1 a left q hF

theorem w_szDatumS_ok (n : Nat) (a : List PDat) (left : Int) (q : Int) (hF : w_szDatumS n a left = some q) : FC Tryd.prog 45 [.psl 0 4 (a.map (cDat.enc 0)), .int .i64 left] [] 3 (fun x _ => x = .int .i64 q) := (w_szDatum_all n).2 a left q hF

theorem w_szInstr_ok (a : PInstr) (left : Int) (q : Int) (hF : w_szInstr a left = some q) : FC Tryd.prog 15 [.agg (cInstr.row 0 a), .int .i64 left] [] 3 (fun x _ => x = .int .i64 q) := by
  refine FC.of_le ?_
  refine fc_body tabOK Tryd.func15 rfl Tryd.ntmps15 rfl rfl rfl ?_
  unfold w_szInstr at hF
  refine at_seq ?_
  refine at_region ?_
  refine sxk 2 tabOK rfl ?_
  refine aops_nil ?_
  refine at_seq ?_
  refine at_region ?_
  refine sxk 3 tabOK rfl ?_
  obtain ⟨x3, hx3, hF⟩ := bnd_some hF
  refine call_eq (w_szDatum_ok RF a.d left x3 hx3) rfl ((rlL_cons (cDat.rl_agg (l := 0) (l' := 0) _ a.d rfl) (rlL_cons (rfl) rlL_nil))) rfl rfl ?_
  refine sxk 1 tabOK rfl ?_
  refine aops_nil ?_
  refine at_seq ?_
  refine at_seq ?_
  refine at_keep [1] rfl ?_
  refine at_region ?_
  refine sxk 2 tabOK rfl ?_
  refine aops_nil ?_
  refine ct_if hF rfl (fun hc hF => ?_) (fun hc hF => ?_)
  · refine at_seq ?_
    refine at_region ?_
    refine sxk 1 tabOK rfl ?_
    refine aops_nil ?_
    refine at_ret ?_
    refine tk_r ?_
    obtain rfl := Option.some.inj hF
    refine ret_le rfl ?_
    exact (vle_refl _)
  · refine at_skip ?_
    refine at_seq ?_
    refine at_region ?_
    refine sxk 2 tabOK rfl ?_
    refine aops_nil ?_
    refine at_ret ?_
    obtain rfl := Option.some.inj hF
    refine ret_le rfl ?_
    exact (vle_refl _)

theorem w_toDatum_bok (w_toDatum : PDat → Option PDat) (w_toDatumS : List PDat → Option (List PDat)) (h_w_toDatum : ∀ (a : PDat) (q : PDat), w_toDatum a = some q → FC Tryd.prog 33 [.agg (cDat.row 0 a)] [] 3 (fun x _ => x = .agg (cDat.row 1 q))) (h_w_toDatumS : ∀ (a : List PDat) (q : List PDat), w_toDatumS a = some q → FC Tryd.prog 49 [.psl 0 4 (a.map (cDat.enc 0))] [] 3 (fun x _ => x = .psl 1 4 (q.map (cDat.enc 1)))) (a : PDat) (q : PDat) (hF : w_toDatum_b w_toDatum w_toDatumS a = some q) : FC Tryd.prog 33 [.agg (cDat.row 0 a)] [] 3 (fun x _ => x = .agg (cDat.row 1 q)) := by
  refine FC.of_le ?_
  refine fc_body tabOK Tryd.func33 rfl Tryd.ntmps33 rfl rfl rfl ?_
  unfold w_toDatum_b at hF
  refine at_seq ?_
  refine at_region ?_
  refine sxk 2 tabOK rfl ?_
  refine aops_nil ?_
  refine at_seq ?_
  refine at_region ?_
  refine sxk 1 tabOK rfl ?_
  refine aops_nil ?_
  refine at_seq ?_
  refine at_region ?_
  refine sxk 4 tabOK rfl ?_
  refine aops_nil ?_
  refine at_seq ?_
  refine at_region ?_
  refine sxk 4 tabOK rfl ?_
  refine aops_nil ?_
  refine at_seq ?_
  refine at_keep [1, 2, 3] rfl ?_
  refine at_region ?_
  refine sxk 4 tabOK rfl ?_
  refine aops_nil ?_
  refine at_seq ?_
  refine at_region ?_
  refine sxk 2 tabOK rfl ?_
  obtain ⟨x4, hx4, hF⟩ := bnd_some hF
  refine call_eq (h_w_toDatumS a.items x4 hx4) rfl ((rlL_cons (cDat.rl_psl (l := 0) (l' := 0) _ a.items rfl) rlL_nil)) (cDat.rl_psl (l := 1) (l' := 1) _ x4 rfl) rfl ?_
  refine sxk 2 tabOK rfl ?_
  refine aops_nil ?_
  refine at_seq ?_
  refine at_keep [2, 3] rfl ?_
  refine at_region ?_
  refine sxk 2 tabOK rfl ?_
  refine aops_nil ?_
  refine at_ret ?_
  obtain rfl := Option.some.inj hF
  refine ret_le rfl ?_
  exact (vle_refl _)

theorem w_toDatumS_bok (w_toDatum : PDat → Option PDat) (w_toDatumS : List PDat → Option (List PDat)) (h_w_toDatum : ∀ (a : PDat) (q : PDat), w_toDatum a = some q → FC Tryd.prog 33 [.agg (cDat.row 0 a)] [] 3 (fun x _ => x = .agg (cDat.row 1 q))) (h_w_toDatumS : ∀ (a : List PDat) (q : List PDat), w_toDatumS a = some q → FC Tryd.prog 49 [.psl 0 4 (a.map (cDat.enc 0))] [] 3 (fun x _ => x = .psl 1 4 (q.map (cDat.enc 1)))) (a : List PDat) (q : List PDat) (hF : w_toDatumS_b w_toDatum w_toDatumS a = some q) : FC Tryd.prog 49 [.psl 0 4 (a.map (cDat.enc 0))] [] 3 (fun x _ => x = .psl 1 4 (q.map (cDat.enc 1))) := by
  refine FC.of_le ?_
  refine fc_body tabOK Tryd.func49 rfl Tryd.ntmps49 rfl rfl rfl ?_
  unfold w_toDatumS_b at hF
  refine at_seq ?_
  refine at_region ?_
  refine sxk 1 tabOK rfl ?_
  refine aops_nil ?_
  refine at_seq ?_
  refine at_region ?_
  refine sxk 1 tabOK rfl ?_
  refine sv rfl (oc_len cDat tabOK rfl rfl rfl) rfl ?_
  obtain ⟨hb, hF⟩ := chk_some hF
  refine sc_make cDat (l := 1) (v := ((PDat.mk 0 0 ([] : List UInt8) []) : PDat)) hb tabOK rfl rfl rfl rfl (.cons (vle_refl _) (.cons (vle_refl _) (.cons (vle_refl _) (.cons (vle_nil _ _) .nil)))) rfl rfl rfl rfl ?_
  refine sxk 1 tabOK rfl ?_
  refine aops_nil ?_
  refine at_seq ?_
  refine at_seq ?_
  refine at_region ?_
  refine sxk 1 tabOK rfl ?_
  refine aops_nil ?_
  refine at_block ?_
  refine cl_loop (σ := Int × List PDat) (fun v => match v with | (i4, out5) => ⟨[(0, .psl 0 4 (a.map (cDat.enc 0))), (3, .hsl 3 0 out5.length), (4, .int .i64 i4)], [(3, ⟨4, out5.map (cDat.enc 1)⟩)], 4, 23, []⟩) (w_toDatumS_L1 w_toDatum a) LF (0, (List.replicate (a.length : Int).toNat ((PDat.mk 0 0 ([] : List UInt8) []) : PDat))) hF (le_down (down_all (ee_cons rfl rfl (cDat.ok_psl _ rfl) (ee_cons rfl rfl (Nat.le_of_ble_eq_true rfl) (ee_cons rfl rfl rfl ee_nil))) (he_cons rfl rfl rfl (cDat.rows_ok _ rfl) he_nil) rfl rfl rfl rfl)) ?_
  rintro lk_ ⟨i4, out5⟩ hF
  refine at_eq (s' := ⟨[(0, .psl 0 4 (a.map (cDat.enc 0))), (3, .hsl 3 0 out5.length), (4, .int .i64 i4)], [(3, ⟨4, out5.map (cDat.enc 1)⟩)], 4, 23, []⟩) rfl ?_
  replace hF : w_toDatumS_L1b w_toDatum a (itr (w_toDatumS_L1 w_toDatum a) lk_) i4 out5 = some q := hF
  unfold w_toDatumS_L1b at hF
  generalize itr (w_toDatumS_L1 w_toDatum a) lk_ = go6 at hF ⊢
  refine at_seq ?_
  refine at_seq ?_
  refine at_region ?_
  refine sxk 2 tabOK rfl ?_
  refine sv rfl (oc_len cDat tabOK rfl rfl rfl) rfl ?_
  refine sxk 1 tabOK rfl ?_
  refine aops_nil ?_
  refine ct_if hF rfl (fun hc hF => ?_) (fun hc hF => ?_)
  · refine at_skip ?_
    refine at_seq ?_
    refine at_block ?_
    refine at_region ?_
    refine sxk 4 tabOK rfl ?_
    obtain ⟨x7, hn_x7, hF⟩ := bnd_some hF
    refine sv rfl (oc_addr cDat hn_x7 tabOK rfl rfl rfl rfl) rfl ?_
    refine sxk 1 tabOK rfl ?_
    obtain ⟨x8, hx8, hF⟩ := bnd_some hF
    refine call_eq (h_w_toDatum x7 x8 hx8) rfl ((rlL_cons (cDat.rl_agg (l := 0) (l' := 0) _ x7 rfl) rlL_nil)) (cDat.rl_agg (l := 1) (l' := 1) _ x8 rfl) rfl ?_
    obtain ⟨x9, hn_x9, hF⟩ := bnd_some hF
    refine sv rfl (oc_haddr cDat hn_x9 tabOK rfl rfl rfl rfl) rfl ?_
    refine sc_store cDat (v' := x8) hn_x9 tabOK rfl rfl rfl rfl rfl rfl rfl rfl ?_
    refine ops_le (le_slot (y := .hsl 3 0 (out5.set i4.toNat x8).length) 3 rfl (vle_eq (congrArg (V.hsl 3 0) (by simp))) rfl) ?_
    refine aops_nil ?_
    refine bk_n ?_
    refine at_keep [0, 3, 4] rfl ?_
    refine at_region ?_
    refine sxk 1 tabOK rfl ?_
    obtain ⟨hb, hF⟩ := chk_some hF
    refine s_add tabOK rfl rfl rfl hb rfl ?_
    refine sxk 1 tabOK rfl ?_
    refine aops_nil ?_
    exact arr_loop ⟨((i4 + 1), (out5.set i4.toNat x8)), hF, (le_down (down_all (ee_cons rfl rfl (cDat.ok_psl _ rfl) (ee_cons rfl rfl (Nat.le_of_ble_eq_true rfl) (ee_cons rfl rfl rfl ee_nil))) (he_cons rfl rfl rfl (cDat.rows_ok _ rfl) he_nil) rfl rfl rfl rfl))⟩
  · refine at_exit ?_
    refine tk_x ?_
    refine ll_x ?_
    refine bk_hit ?_
    refine at_seq ?_
    refine at_region ?_
    refine sxk 2 tabOK rfl ?_
    refine aops_nil ?_
    refine at_le (le_freeze 2 rfl rfl (by simp) rfl) ?_
    refine at_ret ?_
    obtain rfl := Option.some.inj hF
    refine ret_le rfl ?_
    exact (vle_refl _)

theorem w_toDatum_all (n : Nat) : (∀ (a : PDat) (q : PDat), w_toDatum n a = some q → FC Tryd.prog 33 [.agg (cDat.row 0 a)] [] 3 (fun x _ => x = .agg (cDat.row 1 q))) ∧ (∀ (a : List PDat) (q : List PDat), w_toDatumS n a = some q → FC Tryd.prog 49 [.psl 0 4 (a.map (cDat.enc 0))] [] 3 (fun x _ => x = .psl 1 4 (q.map (cDat.enc 1)))) := by
  induction n with
  | zero => exact ⟨(fun _ q h => by cases h), (fun _ q h => by cases h)⟩
  | succ n ih => exact ⟨fun a q h => w_toDatum_bok (w_toDatum n) (w_toDatumS n) ih.1 ih.2 a q h, fun a q h => w_toDatumS_bok (w_toDatum n) (w_toDatumS n) ih.1 ih.2 a q h⟩

theorem w_toDatum_ok (n : Nat) (a : PDat) (q : PDat) (hF : w_toDatum n a = some q) : FC Tryd.prog 33 [.agg (cDat.row 0 a)] [] 3 (fun x _ => x = .agg (cDat.row 1 q)) := (w_toDatum_all n).1 a q hF

theorem w_toDatumS_ok (n : Nat) (a : List PDat) (q : List PDat) (hF : w_toDatumS n a = some q) : FC Tryd.prog 49 [.psl 0 4 (a.map (cDat.enc 0))] [] 3 (fun x _ => x = .psl 1 4 (q.map (cDat.enc 1))) := (w_toDatum_all n).2 a q hF

theorem w_toInstr_ok (a : PInstr) (q : PInstr) (hF : w_toInstr a = some q) : FC Tryd.prog 17 [.agg (cInstr.row 0 a)] [] 3 (fun x _ => x = .agg (cInstr.row 1 q)) := by
  refine FC.of_le ?_
  refine fc_body tabOK Tryd.func17 rfl Tryd.ntmps17 rfl rfl rfl ?_
  unfold w_toInstr at hF
  refine at_seq ?_
  refine at_region ?_
  refine sxk 2 tabOK rfl ?_
  refine aops_nil ?_
  refine at_seq ?_
  refine at_region ?_
  refine sxk 1 tabOK rfl ?_
  refine aops_nil ?_
  refine at_seq ?_
  refine at_region ?_
  refine sxk 4 tabOK rfl ?_
  refine aops_nil ?_
  refine at_seq ?_
  refine at_region ?_
  refine sxk 4 tabOK rfl ?_
  refine aops_nil ?_
  refine at_seq ?_
  refine at_keep [1, 2, 3] rfl ?_
  refine at_region ?_
  refine sxk 2 tabOK rfl ?_
  obtain ⟨x2, hx2, hF⟩ := bnd_some hF
  refine call_eq (w_toDatum_ok RF a.d x2 hx2) rfl ((rlL_cons (cDat.rl_agg (l := 0) (l' := 0) _ a.d rfl) rlL_nil)) (cDat.rl_agg (l := 1) (l' := 1) _ x2 rfl) rfl ?_
  refine sxk 2 tabOK rfl ?_
  refine aops_nil ?_
  refine at_seq ?_
  refine at_region ?_
  refine sxk 2 tabOK rfl ?_
  refine aops_nil ?_
  refine at_ret ?_
  obtain rfl := Option.some.inj hF
  refine ret_le rfl ?_
  exact (vle_refl _)

theorem w_eqDatum_bok (w_eqDatum : PDat → PDat → Option Bool) (w_eqDatumS : List PDat → List PDat → Option Bool) (h_w_eqDatum : ∀ (a : PDat) (b : PDat) (q : Bool), w_eqDatum a b = some q → FC Tryd.prog 37 [.agg (cDat.row 0 a), .agg (cDat.row 0 b)] [] 3 (fun x _ => x = .bool q)) (h_w_eqDatumS : ∀ (a : List PDat) (b : List PDat) (q : Bool), w_eqDatumS a b = some q → FC Tryd.prog 54 [.psl 0 4 (a.map (cDat.enc 0)), .psl 0 4 (b.map (cDat.enc 0))] [] 3 (fun x _ => x = .bool q)) (a : PDat) (b : PDat) (q : Bool) (hF : w_eqDatum_b w_eqDatum w_eqDatumS a b = some q) : FC Tryd.prog 37 [.agg (cDat.row 0 a), .agg (cDat.row 0 b)] [] 3 (fun x _ => x = .bool q) := by
  refine FC.of_le ?_
  refine fc_body tabOK Tryd.func37 rfl Tryd.ntmps37 rfl rfl rfl ?_
  unfold w_eqDatum_b at hF
  refine at_seq ?_
  refine at_region ?_
  refine sxk 3 tabOK rfl ?_
  refine aops_nil ?_
  refine at_seq ?_
  refine at_seq ?_
  refine at_region ?_
  refine sxk 5 tabOK rfl ?_
  refine aops_nil ?_
  refine ct_ifn hF rfl (fun hc hF => ?_) (fun hc hF => ?_)
  · refine at_seq ?_
    refine at_keep [] rfl ?_
    refine at_region ?_
    refine sxk 1 tabOK rfl ?_
    refine aops_nil ?_
    refine at_ret ?_
    refine tk_r ?_
    obtain rfl := Option.some.inj hF
    refine ret_le rfl ?_
    exact (vle_refl _)
  · refine at_skip ?_
    refine at_seq ?_
    refine at_seq ?_
    refine at_keep [2, 3] rfl ?_
    refine at_region ?_
    refine sxk 5 tabOK rfl ?_
    refine aops_nil ?_
    refine ct_ifn hF rfl (fun hc hF => ?_) (fun hc hF => ?_)
    · refine at_seq ?_
      refine at_keep [] rfl ?_
      refine at_region ?_
      refine sxk 1 tabOK rfl ?_
      refine aops_nil ?_
      refine at_ret ?_
      refine tk_r ?_
      obtain rfl := Option.some.inj hF
      refine ret_le rfl ?_
      exact (vle_refl _)
    · refine at_skip ?_
      refine at_seq ?_
      refine at_seq ?_
      refine at_region ?_
      refine sxk 5 tabOK rfl ?_
      refine aops_nil ?_
      refine ct_ifn hF rfl (fun hc hF => ?_) (fun hc hF => ?_)
      · refine at_seq ?_
        refine at_keep [] rfl ?_
        refine at_region ?_
        refine sxk 1 tabOK rfl ?_
        refine aops_nil ?_
        refine at_ret ?_
        refine tk_r ?_
        obtain rfl := Option.some.inj hF
        refine ret_le rfl ?_
        exact (vle_refl _)
      · refine at_skip ?_
        refine at_seq ?_
        refine at_seq ?_
        refine at_keep [2, 3] rfl ?_
        refine at_region ?_
        refine sxk 4 tabOK rfl ?_
        obtain ⟨x5, hx5, hF⟩ := bnd_some hF
        refine call_eq (h_w_eqDatumS a.items b.items x5 hx5) rfl ((rlL_cons (cDat.rl_psl (l := 0) (l' := 0) _ a.items rfl) (rlL_cons (cDat.rl_psl (l := 0) (l' := 0) _ b.items rfl) rlL_nil))) rfl rfl ?_
        refine sxk 1 tabOK rfl ?_
        refine aops_nil ?_
        refine ct_bn hF rfl (fun hc hF => ?_) (fun hc hF => ?_)
        · refine at_seq ?_
          refine at_keep [] rfl ?_
          refine at_region ?_
          refine sxk 1 tabOK rfl ?_
          refine aops_nil ?_
          refine at_ret ?_
          refine tk_r ?_
          obtain rfl := Option.some.inj hF
          refine ret_le rfl ?_
          exact (vle_refl _)
        · refine at_skip ?_
          refine at_seq ?_
          refine at_keep [] rfl ?_
          refine at_region ?_
          refine sxk 1 tabOK rfl ?_
          refine aops_nil ?_
          refine at_ret ?_
          obtain rfl := Option.some.inj hF
          refine ret_le rfl ?_
          exact (vle_refl _)

theorem w_eqDatumS_bok (w_eqDatum : PDat → PDat → Option Bool) (w_eqDatumS : List PDat → List PDat → Option Bool) (h_w_eqDatum : ∀ (a : PDat) (b : PDat) (q : Bool), w_eqDatum a b = some q → FC Tryd.prog 37 [.agg (cDat.row 0 a), .agg (cDat.row 0 b)] [] 3 (fun x _ => x = .bool q)) (h_w_eqDatumS : ∀ (a : List PDat) (b : List PDat) (q : Bool), w_eqDatumS a b = some q → FC Tryd.prog 54 [.psl 0 4 (a.map (cDat.enc 0)), .psl 0 4 (b.map (cDat.enc 0))] [] 3 (fun x _ => x = .bool q)) (a : List PDat) (b : List PDat) (q : Bool) (hF : w_eqDatumS_b w_eqDatum w_eqDatumS a b = some q) : FC Tryd.prog 54 [.psl 0 4 (a.map (cDat.enc 0)), .psl 0 4 (b.map (cDat.enc 0))] [] 3 (fun x _ => x = .bool q) := by
  refine FC.of_le ?_
  refine fc_body tabOK Tryd.func54 rfl Tryd.ntmps54 rfl rfl rfl ?_
  unfold w_eqDatumS_b at hF
  refine at_seq ?_
  refine at_region ?_
  refine sxk 1 tabOK rfl ?_
  refine aops_nil ?_
  refine at_seq ?_
  refine at_seq ?_
  refine at_region ?_
  refine sxk 1 tabOK rfl ?_
  refine sv rfl (oc_len cDat tabOK rfl rfl rfl) rfl ?_
  refine sxk 1 tabOK rfl ?_
  refine sv rfl (oc_len cDat tabOK rfl rfl rfl) rfl ?_
  refine sxk 1 tabOK rfl ?_
  refine aops_nil ?_
  refine ct_ifn hF rfl (fun hc hF => ?_) (fun hc hF => ?_)
  · refine at_seq ?_
    refine at_keep [] rfl ?_
    refine at_region ?_
    refine sxk 1 tabOK rfl ?_
    refine aops_nil ?_
    refine at_ret ?_
    refine tk_r ?_
    obtain rfl := Option.some.inj hF
    refine ret_le rfl ?_
    exact (vle_refl _)
  · refine at_skip ?_
    refine at_seq ?_
    refine at_seq ?_
    refine at_region ?_
    refine sxk 1 tabOK rfl ?_
    refine aops_nil ?_
    refine at_block ?_
    refine cl_loop (σ := Int) (fun i5 => ⟨[(0, .psl 0 4 (a.map (cDat.enc 0))), (1, .psl 0 4 (b.map (cDat.enc 0))), (5, .int .i64 i5)], [], 3, 27, []⟩) (w_eqDatumS_L1 w_eqDatum a b) LF 0 hF (le_down (down_all (ee_cons rfl rfl (cDat.ok_psl _ rfl) (ee_cons rfl rfl (cDat.ok_psl _ rfl) (ee_cons rfl rfl rfl ee_nil))) he_nil rfl rfl rfl rfl)) ?_
    rintro lk_ i5 hF
    refine at_eq (s' := ⟨[(0, .psl 0 4 (a.map (cDat.enc 0))), (1, .psl 0 4 (b.map (cDat.enc 0))), (5, .int .i64 i5)], [], 3, 27, []⟩) rfl ?_
    replace hF : w_eqDatumS_L1b w_eqDatum a b (itr (w_eqDatumS_L1 w_eqDatum a b) lk_) i5 = some q := hF
    unfold w_eqDatumS_L1b at hF
    generalize itr (w_eqDatumS_L1 w_eqDatum a b) lk_ = go6 at hF ⊢
    refine at_seq ?_
    refine at_seq ?_
    refine at_region ?_
    refine sxk 2 tabOK rfl ?_
    refine sv rfl (oc_len cDat tabOK rfl rfl rfl) rfl ?_
    refine sxk 1 tabOK rfl ?_
    refine aops_nil ?_
    refine ct_if hF rfl (fun hc hF => ?_) (fun hc hF => ?_)
    · refine at_skip ?_
      refine at_seq ?_
      refine at_block ?_
      refine at_seq ?_
      refine at_drawnM (id := 6) 8 (by kernel_rfl) (by kernel_rfl) ?_
      refine nx tabOK rfl ?_
      refine nx tabOK rfl ?_
      obtain ⟨x7, hn_x7, hF⟩ := bnd_some hF
      refine nv rfl (oc_addr cDat hn_x7 tabOK rfl rfl rfl rfl) rfl ?_
      refine nx tabOK rfl ?_
      refine nx tabOK rfl ?_
      refine nx tabOK rfl ?_
      obtain ⟨x8, hn_x8, hF⟩ := bnd_some hF
      refine nv rfl (oc_addr cDat hn_x8 tabOK rfl rfl rfl rfl) rfl ?_
      refine nx tabOK rfl ?_
      refine dn_nil rfl ?_
      obtain ⟨x9, hx9, hF⟩ := bnd_some hF
      refine call_eq (h_w_eqDatum x7 x8 x9 hx9) rfl ((rlL_cons (cDat.rl_agg (l := 0) (l' := 0) _ x7 rfl) (rlL_cons (cDat.rl_agg (l := 0) (l' := 0) _ x8 rfl) rlL_nil))) rfl rfl ?_
      refine sxk 1 tabOK rfl ?_
      refine aops_nil ?_
      refine ct_bn hF rfl (fun hc hF => ?_) (fun hc hF => ?_)
      · refine at_seq ?_
        refine at_keep [] rfl ?_
        refine at_region ?_
        refine sxk 1 tabOK rfl ?_
        refine aops_nil ?_
        refine at_ret ?_
        refine bk_r ?_
        refine tk_r ?_
        refine ll_r ?_
        refine bk_r ?_
        refine tk_r ?_
        obtain rfl := Option.some.inj hF
        refine ret_le rfl ?_
        exact (vle_refl _)
      · refine at_skip ?_
        refine bk_n ?_
        refine at_keep [0, 1, 5] rfl ?_
        refine at_region ?_
        refine sxk 1 tabOK rfl ?_
        obtain ⟨hb, hF⟩ := chk_some hF
        refine s_add tabOK rfl rfl rfl hb rfl ?_
        refine sxk 1 tabOK rfl ?_
        refine aops_nil ?_
        exact arr_loop ⟨(i5 + 1), hF, (le_down (down_all (ee_cons rfl rfl (cDat.ok_psl _ rfl) (ee_cons rfl rfl (cDat.ok_psl _ rfl) (ee_cons rfl rfl rfl ee_nil))) he_nil rfl rfl rfl rfl))⟩
    · refine at_exit ?_
      refine tk_x ?_
      refine ll_x ?_
      refine bk_hit ?_
      refine at_seq ?_
      refine at_keep [] rfl ?_
      refine at_region ?_
      refine sxk 1 tabOK rfl ?_
      refine aops_nil ?_
      refine at_ret ?_
      obtain rfl := Option.some.inj hF
      refine ret_le rfl ?_
      exact (vle_refl _)

theorem w_eqDatum_all (n : Nat) : (∀ (a : PDat) (b : PDat) (q : Bool), w_eqDatum n a b = some q → FC Tryd.prog 37 [.agg (cDat.row 0 a), .agg (cDat.row 0 b)] [] 3 (fun x _ => x = .bool q)) ∧ (∀ (a : List PDat) (b : List PDat) (q : Bool), w_eqDatumS n a b = some q → FC Tryd.prog 54 [.psl 0 4 (a.map (cDat.enc 0)), .psl 0 4 (b.map (cDat.enc 0))] [] 3 (fun x _ => x = .bool q)) := by
  induction n with
  | zero => exact ⟨(fun _ _ q h => by cases h), (fun _ _ q h => by cases h)⟩
  | succ n ih => exact ⟨fun a b q h => w_eqDatum_bok (w_eqDatum n) (w_eqDatumS n) ih.1 ih.2 a b q h, fun a b q h => w_eqDatumS_bok (w_eqDatum n) (w_eqDatumS n) ih.1 ih.2 a b q h⟩

theorem w_eqDatum_ok (n : Nat) (a : PDat) (b : PDat) (q : Bool) (hF : w_eqDatum n a b = some q) : FC Tryd.prog 37 [.agg (cDat.row 0 a), .agg (cDat.row 0 b)] [] 3 (fun x _ => x = .bool q) := (w_eqDatum_all n).1 a b q hF

theorem w_eqDatumS_ok (n : Nat) (a : List PDat) (b : List PDat) (q : Bool) (hF : w_eqDatumS n a b = some q) : FC Tryd.prog 54 [.psl 0 4 (a.map (cDat.enc 0)), .psl 0 4 (b.map (cDat.enc 0))] [] 3 (fun x _ => x = .bool q) := (w_eqDatum_all n).2 a b q hF

theorem w_eqInstr_ok (a : PInstr) (b : PInstr) (q : Bool) (hF : w_eqInstr a b = some q) : FC Tryd.prog 19 [.agg (cInstr.row 0 a), .agg (cInstr.row 0 b)] [] 3 (fun x _ => x = .bool q) := by
  refine FC.of_le ?_
  refine fc_body tabOK Tryd.func19 rfl Tryd.ntmps19 rfl rfl rfl ?_
  unfold w_eqInstr at hF
  refine at_seq ?_
  refine at_region ?_
  refine sxk 3 tabOK rfl ?_
  refine aops_nil ?_
  refine at_seq ?_
  refine at_seq ?_
  refine at_region ?_
  refine sxk 5 tabOK rfl ?_
  refine aops_nil ?_
  refine ct_ifn hF rfl (fun hc hF => ?_) (fun hc hF => ?_)
  · refine at_seq ?_
    refine at_keep [] rfl ?_
    refine at_region ?_
    refine sxk 1 tabOK rfl ?_
    refine aops_nil ?_
    refine at_ret ?_
    refine tk_r ?_
    obtain rfl := Option.some.inj hF
    refine ret_le rfl ?_
    exact (vle_refl _)
  · refine at_skip ?_
    refine at_seq ?_
    refine at_seq ?_
    refine at_keep [2, 3] rfl ?_
    refine at_region ?_
    refine sxk 5 tabOK rfl ?_
    refine aops_nil ?_
    refine ct_ifn hF rfl (fun hc hF => ?_) (fun hc hF => ?_)
    · refine at_seq ?_
      refine at_keep [] rfl ?_
      refine at_region ?_
      refine sxk 1 tabOK rfl ?_
      refine aops_nil ?_
      refine at_ret ?_
      refine tk_r ?_
      obtain rfl := Option.some.inj hF
      refine ret_le rfl ?_
      exact (vle_refl _)
    · refine at_skip ?_
      refine at_seq ?_
      refine at_seq ?_
      refine at_region ?_
      refine sxk 4 tabOK rfl ?_
      obtain ⟨x3, hx3, hF⟩ := bnd_some hF
      refine call_eq (w_eqDatum_ok RF a.d b.d x3 hx3) rfl ((rlL_cons (cDat.rl_agg (l := 0) (l' := 0) _ a.d rfl) (rlL_cons (cDat.rl_agg (l := 0) (l' := 0) _ b.d rfl) rlL_nil))) rfl rfl ?_
      refine sxk 1 tabOK rfl ?_
      refine aops_nil ?_
      refine ct_bn hF rfl (fun hc hF => ?_) (fun hc hF => ?_)
      · refine at_seq ?_
        refine at_keep [] rfl ?_
        refine at_region ?_
        refine sxk 1 tabOK rfl ?_
        refine aops_nil ?_
        refine at_ret ?_
        refine tk_r ?_
        obtain rfl := Option.some.inj hF
        refine ret_le rfl ?_
        exact (vle_refl _)
      · refine at_skip ?_
        refine at_seq ?_
        refine at_keep [] rfl ?_
        refine at_region ?_
        refine sxk 1 tabOK rfl ?_
        refine aops_nil ?_
        refine at_ret ?_
        obtain rfl := Option.some.inj hF
        refine ret_le rfl ?_
        exact (vle_refl _)

theorem w_FnExactFormatInstr_ok (aX : PInstr) (q : Bool) (hF : w_FnExactFormatInstr aX = some q) : FC Tryd.prog 5 [.agg (cInstr.row 0 aX)] [] 3 (fun x _ => x = .bool q) := by
  refine FC.of_le ?_
  refine fc_body tabOK Tryd.func5 rfl Tryd.ntmps5 rfl rfl rfl ?_
  unfold w_FnExactFormatInstr at hF
  refine at_seq ?_
  refine at_region ?_
  refine sxk 2 tabOK rfl ?_
  refine aops_nil ?_
  refine at_seq ?_
  refine at_region ?_
  refine sxk 1 tabOK rfl ?_
  refine aops_nil ?_
  refine at_seq ?_
  refine at_region ?_
  refine sxk 2 tabOK rfl ?_
  obtain ⟨x2, hx2, hF⟩ := bnd_some hF
  refine call_eq (w_szInstr_ok aX 1048576 x2 hx2) rfl ((rlL_cons (cInstr.rl_agg (l := 0) (l' := 0) _ aX rfl) (rlL_cons (rfl) rlL_nil))) rfl rfl ?_
  refine sxk 1 tabOK rfl ?_
  refine aops_nil ?_
  refine at_seq ?_
  refine at_seq ?_
  refine at_region ?_
  refine sxk 2 tabOK rfl ?_
  refine aops_nil ?_
  refine ct_if hF rfl (fun hc hF => ?_) (fun hc hF => ?_)
  · refine at_seq ?_
    refine at_keep [] rfl ?_
    refine at_region ?_
    refine sxk 1 tabOK rfl ?_
    refine aops_nil ?_
    refine at_ret ?_
    refine tk_r ?_
    obtain rfl := Option.some.inj hF
    refine ret_le rfl ?_
    exact (vle_refl _)
  · refine at_skip ?_
    refine at_seq ?_
    refine at_keep [1] rfl ?_
    refine at_region ?_
    refine sxk 1 tabOK rfl ?_
    obtain ⟨x3, hx3, hF⟩ := bnd_some hF
    refine call_eq (w_toInstr_ok aX x3 hx3) rfl ((rlL_cons (cInstr.rl_agg (l := 0) (l' := 0) _ aX rfl) rlL_nil)) (cInstr.rl_agg (l := 1) (l' := 1) _ x3 rfl) rfl ?_
    obtain ⟨x4, hx4, hF⟩ := bnd_some hF
    refine call_eq (s_FormatInstr_ok x3 x4 hx4) rfl ((rlL_cons (cInstr.rl_agg (l := 1) (l' := 0) _ x3 rfl) rlL_nil)) rfl rfl ?_
    refine sxk 1 tabOK rfl ?_
    refine aops_nil ?_
    refine at_seq ?_
    refine at_region ?_
    refine sxk 1 tabOK rfl ?_
    obtain ⟨x5, hx5, hF⟩ := bnd_some hF
    refine call_eq (w_toInstr_ok aX x5 hx5) rfl ((rlL_cons (cInstr.rl_agg (l := 0) (l' := 0) _ aX rfl) rlL_nil)) (cInstr.rl_agg (l := 1) (l' := 1) _ x5 rfl) rfl ?_
    refine sxk 2 tabOK rfl ?_
    refine aops_nil ?_
    refine at_seq ?_
    refine at_region ?_
    refine sxk 1 tabOK rfl ?_
    obtain ⟨x6, hx6, hF⟩ := bnd_some hF
    refine call_eq (i_FormatInstr_ok x5 x6 hx6) rfl ((rlL_cons (cInstr.rl_agg (l := 1) (l' := 0) _ x5 rfl) rlL_nil)) rfl rfl ?_
    refine sxk 1 tabOK rfl ?_
    refine aops_nil ?_
    refine at_seq ?_
    refine at_seq ?_
    refine at_keep [1, 4, 5, 6] rfl ?_
    refine at_region ?_
    refine sxk 3 tabOK rfl ?_
    refine aops_nil ?_
    refine ct_ifn hF rfl (fun hc hF => ?_) (fun hc hF => ?_)
    · refine at_seq ?_
      refine at_keep [] rfl ?_
      refine at_region ?_
      refine sxk 1 tabOK rfl ?_
      refine aops_nil ?_
      refine at_ret ?_
      refine tk_r ?_
      obtain rfl := Option.some.inj hF
      refine ret_le rfl ?_
      exact (vle_refl _)
    · refine at_skip ?_
      refine at_seq ?_
      refine at_seq ?_
      refine at_drawnM (id := 10) 3 (by kernel_rfl) (by kernel_rfl) ?_
      refine nx tabOK rfl ?_
      refine nx tabOK rfl ?_
      obtain ⟨x7, hx7, hF⟩ := bnd_some hF
      refine n_call (w_toInstr_ok aX x7 hx7) rfl ((rlL_cons (cInstr.rl_agg (l := 0) (l' := 0) _ aX rfl) rlL_nil)) (cInstr.rl_agg (l := 1) (l' := 1) _ x7 rfl) rfl ?_
      refine dn_nil rfl ?_
      obtain ⟨x8, hx8, hF⟩ := bnd_some hF
      refine call_eq (w_eqInstr_ok x5 x7 x8 hx8) rfl ((rlL_cons (cInstr.rl_agg (l := 1) (l' := 0) _ x5 rfl) (rlL_cons (cInstr.rl_agg (l := 1) (l' := 0) _ x7 rfl) rlL_nil))) rfl rfl ?_
      refine sxk 1 tabOK rfl ?_
      refine aops_nil ?_
      refine ct_bn hF rfl (fun hc hF => ?_) (fun hc hF => ?_)
      · refine at_seq ?_
        refine at_keep [] rfl ?_
        refine at_region ?_
        refine sxk 1 tabOK rfl ?_
        refine aops_nil ?_
        refine at_ret ?_
        refine tk_r ?_
        obtain rfl := Option.some.inj hF
        refine ret_le rfl ?_
        exact (vle_refl _)
      · refine at_skip ?_
        refine at_seq ?_
        refine at_keep [] rfl ?_
        refine at_region ?_
        refine sxk 1 tabOK rfl ?_
        refine aops_nil ?_
        refine at_ret ?_
        obtain rfl := Option.some.inj hF
        refine ret_le rfl ?_
        exact (vle_refl _)

end Go.Proofs.YtiecdekmiabmkaaDoor
