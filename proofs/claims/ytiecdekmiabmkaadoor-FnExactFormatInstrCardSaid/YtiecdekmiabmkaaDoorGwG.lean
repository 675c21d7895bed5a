/-
  Walks, made by wip/gen: G
-/
import Derived.Test.YtiecdekmiabmkaaDoorGpG
import Derived.Test.YtiecdekmiabmkaaDoorGwF
set_option linter.unusedVariables false
set_option linter.unusedSimpArgs false
namespace Go.Proofs.YtiecdekmiabmkaaDoor
open Go.Abs
attribute [local irreducible] AT AOps FC DR DN
set_option maxRecDepth 10000
set_option maxHeartbeats 4000000

theorem s_FormatNumber_ok (x_1 : Int) (q : List UInt8) (hF : s_FormatNumber x_1 = some q) : FC Tryd.prog 32 [.int .i64 x_1] [] 3 (fun x _ => x = .str q) := by
  refine FC.of_le ?_
  refine fc_body tabOK Tryd.func32 rfl Tryd.ntmps32 rfl rfl rfl ?_
  unfold s_FormatNumber at hF
  refine at_seq ?_
  refine at_region ?_
  refine sxk 1 tabOK rfl ?_
  refine aops_nil ?_
  refine at_seq ?_
  refine at_seq ?_
  refine at_region ?_
  refine sxk 2 tabOK rfl ?_
  refine aops_nil ?_
  refine ct_if hF rfl (fun hc hF => ?_) (fun hc hF => ?_)
  · refine at_seq ?_
    refine at_region ?_
    refine sxk 1 tabOK rfl ?_
    refine aops_nil ?_
    refine at_ret ?_
    refine tk_r ?_
    obtain rfl := Option.some.inj hF
    refine ret_le rfl ?_
    exact (vle_refl _)
  · refine at_skip ?_
    refine at_seq ?_
    refine at_region ?_
    refine sxk 1 tabOK rfl ?_
    refine aops_nil ?_
    refine at_seq ?_
    refine at_seq ?_
    refine at_region ?_
    refine sxk 2 tabOK rfl ?_
    refine aops_nil ?_
    refine at_block ?_
    refine cl_loop (σ := List UInt8 × Int) (fun v => match v with | (out2, x3) => ⟨[(0, .int .i64 x_1), (3, .str out2), (4, .int .i64 x3)], [], 3, 31, []⟩) (s_FormatNumber_L1 x_1) LF (([] : List UInt8), x_1) hF (le_down (down_all (ee_cons rfl rfl rfl (ee_cons rfl rfl rfl (ee_cons rfl rfl rfl ee_nil))) he_nil rfl rfl rfl rfl)) ?_
    rintro lk_ ⟨out2, x3⟩ hF
    refine at_eq (s' := ⟨[(0, .int .i64 x_1), (3, .str out2), (4, .int .i64 x3)], [], 3, 31, []⟩) rfl ?_
    replace hF : s_FormatNumber_L1b x_1 (itr (s_FormatNumber_L1 x_1) lk_) out2 x3 = some q := hF
    unfold s_FormatNumber_L1b at hF
    generalize itr (s_FormatNumber_L1 x_1) lk_ = go4 at hF ⊢
    refine at_seq ?_
    refine at_seq ?_
    refine at_region ?_
    refine sxk 2 tabOK rfl ?_
    refine aops_nil ?_
    refine ct_ifn hF rfl (fun hc hF => ?_) (fun hc hF => ?_)
    · refine at_skip ?_
      refine at_seq ?_
      refine at_block ?_
      refine at_seq ?_
      refine at_region ?_
      refine sxk 1 tabOK rfl ?_
      obtain ⟨hb, hF⟩ := chk_some hF
      refine sv rfl (oc_trem rfl rfl hb) rfl ?_
      refine sxk 1 tabOK rfl ?_
      refine aops_nil ?_
      refine at_seq ?_
      refine at_seq ?_
      refine at_region ?_
      refine sxk 2 tabOK rfl ?_
      refine aops_nil ?_
      refine cl_midn (σ := Int) (fun d5 => ⟨[(0, .int .i64 x_1), (3, .str out2), (4, .int .i64 x3), (5, .int .i64 d5)], [], 3, 31, []⟩) (fun d5 => s_FormatNumber_J2 out2 x3 go4 d5 = some q) ?_ ?_
      · refine ct_if hF rfl (fun hc hF => ?_) (fun hc hF => ?_)
        · refine at_region ?_
          refine sxk 1 tabOK rfl ?_
          obtain ⟨hb, hF⟩ := chk_some hF
          refine sv rfl (oc_neg rfl tabOK hb) rfl ?_
          refine sxk 1 tabOK rfl ?_
          refine aops_nil ?_
          exact arr_cut ⟨(-(Int.tmod x3 10)), hF, (le_down (down_all (ee_cons rfl rfl rfl (ee_cons rfl rfl rfl (ee_cons rfl rfl rfl (ee_cons rfl rfl rfl ee_nil)))) he_nil rfl rfl rfl rfl))⟩
        · refine at_skip ?_
          exact arr_cut ⟨(Int.tmod x3 10), hF, (le_down (down_all (ee_cons rfl rfl rfl (ee_cons rfl rfl rfl (ee_cons rfl rfl rfl (ee_cons rfl rfl rfl ee_nil)))) he_nil rfl rfl rfl rfl))⟩
      · rintro d5 hF
        refine at_eq (s' := ⟨[(0, .int .i64 x_1), (3, .str out2), (4, .int .i64 x3), (5, .int .i64 d5)], [], 3, 31, []⟩) rfl ?_
        replace hF : s_FormatNumber_J2 out2 x3 go4 d5 = some q := hF
        unfold s_FormatNumber_J2 at hF
        refine at_region ?_
        refine sxk 1 tabOK rfl ?_
        obtain ⟨hb, hF⟩ := chk_some hF
        refine s_add tabOK rfl rfl rfl hb rfl ?_
        obtain ⟨hb, hF⟩ := chk_some hF
        refine sv rfl (ov_toByte hb tabOK rfl rfl rfl) rfl ?_
        refine sc_slit cByte (l := 0) ([(UInt8.ofNat (48 + d5).toNat)] : List UInt8) tabOK rfl rfl rfl rfl rfl rfl rfl ?_
        refine sv rfl (ov_bytesH tabOK rfl rfl rfl rfl) rfl ?_
        refine sxk 1 tabOK rfl ?_
        obtain ⟨hb, hF⟩ := chk_some hF
        refine sv rfl (ov_cat rfl rfl hb) rfl ?_
        refine sxk 1 tabOK rfl ?_
        refine aops_nil ?_
        refine bk_n ?_
        refine at_keep [0, 3, 4] rfl ?_
        refine at_region ?_
        refine sxk 1 tabOK rfl ?_
        obtain ⟨hb, hF⟩ := chk_some hF
        refine sv rfl (oc_tquo rfl rfl hb) rfl ?_
        refine sxk 1 tabOK rfl ?_
        refine aops_nil ?_
        exact arr_loop ⟨((([(UInt8.ofNat (48 + d5).toNat)] : List UInt8) ++ out2), (Int.tdiv x3 10)), hF, (le_down (down_all (ee_cons rfl rfl rfl (ee_cons rfl rfl rfl (ee_cons rfl rfl rfl ee_nil))) he_nil rfl rfl rfl rfl))⟩
    · refine at_exit ?_
      refine tk_x ?_
      refine ll_x ?_
      refine bk_hit ?_
      refine at_seq ?_
      refine at_seq ?_
      refine at_region ?_
      refine sxk 2 tabOK rfl ?_
      refine aops_nil ?_
      refine ct_if hF rfl (fun hc hF => ?_) (fun hc hF => ?_)
      · refine at_region ?_
        refine sxk 1 tabOK rfl ?_
        obtain ⟨hb, hF⟩ := chk_some hF
        refine sv rfl (ov_cat rfl rfl hb) rfl ?_
        refine sxk 1 tabOK rfl ?_
        refine aops_nil ?_
        refine at_seq ?_
        refine at_keep [3] rfl ?_
        refine at_region ?_
        refine sxk 2 tabOK rfl ?_
        refine aops_nil ?_
        refine at_ret ?_
        obtain rfl := Option.some.inj hF
        refine ret_le rfl ?_
        exact (vle_refl _)
      · refine at_skip ?_
        refine at_seq ?_
        refine at_region ?_
        refine sxk 2 tabOK rfl ?_
        refine aops_nil ?_
        refine at_ret ?_
        obtain rfl := Option.some.inj hF
        refine ret_le rfl ?_
        exact (vle_refl _)

theorem s_l1Join_ok (list : List (List UInt8)) (x_1 : List UInt8) (q : List UInt8) (hF : s_l1Join list x_1 = some q) : FC Tryd.prog 48 [.psl 0 1 (list.map (cStr.enc 0)), .str x_1] [] 3 (fun x _ => x = .str q) := by
  refine FC.of_le ?_
  refine fc_body tabOK Tryd.func48 rfl Tryd.ntmps48 rfl rfl rfl ?_
  unfold s_l1Join at hF
  refine at_seq ?_
  refine at_region ?_
  refine sxk 1 tabOK rfl ?_
  refine aops_nil ?_
  refine at_seq ?_
  refine at_region ?_
  refine sxk 1 tabOK rfl ?_
  refine aops_nil ?_
  refine at_seq ?_
  refine at_seq ?_
  refine at_region ?_
  refine sxk 1 tabOK rfl ?_
  refine sv rfl (oc_len cStr tabOK rfl rfl rfl) rfl ?_
  refine sxk 1 tabOK rfl ?_
  refine aops_nil ?_
  refine at_block ?_
  refine cl_loop (σ := List UInt8 × Int) (fun v => match v with | (out3, x4) => ⟨[(1, .str x_1), (5, .str out3), (8, .psl 0 1 (list.map (cStr.enc 0))), (9, .int .i64 (list.length : Int)), (10, .int .i64 x4)], [], 3, 25, []⟩) (s_l1Join_L1 list x_1) LF (([] : List UInt8), 0) hF (le_down (down_all (ee_cons rfl rfl rfl (ee_cons rfl rfl rfl (ee_cons rfl rfl (cStr.ok_psl _ rfl) (ee_cons rfl rfl rfl (ee_cons rfl rfl rfl ee_nil))))) he_nil rfl rfl rfl rfl)) ?_
  rintro lk_ ⟨out3, x4⟩ hF
  refine at_eq (s' := ⟨[(1, .str x_1), (5, .str out3), (8, .psl 0 1 (list.map (cStr.enc 0))), (9, .int .i64 (list.length : Int)), (10, .int .i64 x4)], [], 3, 25, []⟩) rfl ?_
  replace hF : s_l1Join_L1b list x_1 (itr (s_l1Join_L1 list x_1) lk_) out3 x4 = some q := hF
  unfold s_l1Join_L1b at hF
  generalize itr (s_l1Join_L1 list x_1) lk_ = go5 at hF ⊢
  refine at_seq ?_
  refine at_region ?_
  refine sxk 1 tabOK rfl ?_
  refine aops_nil ?_
  refine at_seq ?_
  refine ct_if hF rfl (fun hc hF => ?_) (fun hc hF => ?_)
  · refine at_skip ?_
    refine at_seq ?_
    refine at_block ?_
    refine at_seq ?_
    refine at_region ?_
    refine sxk 1 tabOK rfl ?_
    obtain ⟨x6, hn_x6, hF⟩ := bnd_some hF
    refine sv rfl (oc_addr cStr hn_x6 tabOK rfl rfl rfl rfl) rfl ?_
    refine sxk 3 tabOK rfl ?_
    refine aops_nil ?_
    refine at_seq ?_
    refine at_seq ?_
    refine at_region ?_
    refine sxk 2 tabOK rfl ?_
    refine aops_nil ?_
    refine cl_midn (σ := List UInt8) (fun out7 => ⟨[(1, .str x_1), (5, .str out7), (7, .str x6), (8, .psl 0 1 (list.map (cStr.enc 0))), (9, .int .i64 (list.length : Int)), (10, .int .i64 x4)], [], 3, 25, []⟩) (fun out7 => s_l1Join_J2 x4 go5 x6 out7 = some q) ?_ ?_
    · refine ct_if hF rfl (fun hc hF => ?_) (fun hc hF => ?_)
      · refine at_keep [1, 5, 7, 8, 9, 10] rfl ?_
        refine at_region ?_
        refine sxk 2 tabOK rfl ?_
        obtain ⟨hb, hF⟩ := chk_some hF
        refine sv rfl (ov_cat rfl rfl hb) rfl ?_
        refine sxk 1 tabOK rfl ?_
        refine aops_nil ?_
        exact arr_cut ⟨(out3 ++ x_1), hF, (le_down (down_all (ee_cons rfl rfl rfl (ee_cons rfl rfl rfl (ee_cons rfl rfl rfl (ee_cons rfl rfl (cStr.ok_psl _ rfl) (ee_cons rfl rfl rfl (ee_cons rfl rfl rfl ee_nil)))))) he_nil rfl rfl rfl rfl))⟩
      · refine at_skip ?_
        exact arr_cut ⟨out3, hF, (le_down (down_all (ee_cons rfl rfl rfl (ee_cons rfl rfl rfl (ee_cons rfl rfl rfl (ee_cons rfl rfl (cStr.ok_psl _ rfl) (ee_cons rfl rfl rfl (ee_cons rfl rfl rfl ee_nil)))))) he_nil rfl rfl rfl rfl))⟩
    · rintro out7 hF
      refine at_eq (s' := ⟨[(1, .str x_1), (5, .str out7), (7, .str x6), (8, .psl 0 1 (list.map (cStr.enc 0))), (9, .int .i64 (list.length : Int)), (10, .int .i64 x4)], [], 3, 25, []⟩) rfl ?_
      replace hF : s_l1Join_J2 x4 go5 x6 out7 = some q := hF
      unfold s_l1Join_J2 at hF
      refine at_region ?_
      refine sxk 2 tabOK rfl ?_
      obtain ⟨hb, hF⟩ := chk_some hF
      refine sv rfl (ov_cat rfl rfl hb) rfl ?_
      refine sxk 1 tabOK rfl ?_
      refine aops_nil ?_
      refine bk_n ?_
      refine at_region ?_
      obtain ⟨hb, hF⟩ := chk_some hF
      refine s_add tabOK rfl rfl rfl hb rfl ?_
      refine sxk 1 tabOK rfl ?_
      refine aops_nil ?_
      exact arr_loop ⟨((out7 ++ x6), (x4 + 1)), hF, (le_down (down_all (ee_cons rfl rfl rfl (ee_cons rfl rfl rfl (ee_cons rfl rfl (cStr.ok_psl _ rfl) (ee_cons rfl rfl rfl (ee_cons rfl rfl rfl ee_nil))))) he_nil rfl rfl rfl rfl))⟩
  · refine at_exit ?_
    refine tk_x ?_
    refine ll_x ?_
    refine bk_hit ?_
    refine at_seq ?_
    refine at_region ?_
    refine sxk 2 tabOK rfl ?_
    refine aops_nil ?_
    refine at_ret ?_
    obtain rfl := Option.some.inj hF
    refine ret_le rfl ?_
    exact (vle_refl _)

theorem s_l1Format_bok (s_l1Format : PDat → Option (List UInt8)) (h_s_l1Format : ∀ (d : PDat) (q : List UInt8), s_l1Format d = some q → FC Tryd.prog 30 [.agg (cDat.row 0 d)] [] 3 (fun x _ => x = .str q)) (d : PDat) (q : List UInt8) (hF : s_l1Format_b s_l1Format d = some q) : FC Tryd.prog 30 [.agg (cDat.row 0 d)] [] 3 (fun x _ => x = .str q) := by
  refine FC.of_le ?_
  refine fc_body tabOK Tryd.func30 rfl Tryd.ntmps30 rfl rfl rfl ?_
  unfold s_l1Format_b at hF
  refine at_seq ?_
  refine at_region ?_
  refine sxk 2 tabOK rfl ?_
  refine aops_nil ?_
  refine at_seq ?_
  refine at_seq ?_
  refine at_region ?_
  refine sxk 2 tabOK rfl ?_
  refine aops_nil ?_
  refine at_block ?_
  refine at_seq ?_
  refine at_region ?_
  refine sxk 2 tabOK rfl ?_
  refine aops_nil ?_
  refine ct_if hF rfl (fun hc hF => ?_) (fun hc hF => ?_)
  · refine at_seq ?_
    refine at_region ?_
    refine sxk 3 tabOK rfl ?_
    refine aops_nil ?_
    refine at_ret ?_
    refine bk_r ?_
    refine tk_r ?_
    obtain rfl := Option.some.inj hF
    refine ret_le rfl ?_
    exact (vle_refl _)
  · refine at_seq ?_
    refine at_region ?_
    refine sxk 2 tabOK rfl ?_
    refine aops_nil ?_
    refine ct_if hF rfl (fun hc hF => ?_) (fun hc hF => ?_)
    · refine at_seq ?_
      refine at_keep [1] rfl ?_
      refine at_region ?_
      refine sxk 2 tabOK rfl ?_
      obtain ⟨x3, hx3, hF⟩ := bnd_some hF
      refine call_eq (s_FormatNumber_ok d.number x3 hx3) rfl ((rlL_cons (rfl) rlL_nil)) rfl rfl ?_
      refine sxk 1 tabOK rfl ?_
      refine aops_nil ?_
      refine at_ret ?_
      refine bk_r ?_
      refine tk_r ?_
      obtain rfl := Option.some.inj hF
      refine ret_le rfl ?_
      exact (vle_refl _)
    · refine at_seq ?_
      refine at_keep [1, 7] rfl ?_
      refine at_region ?_
      refine sxk 2 tabOK rfl ?_
      refine aops_nil ?_
      refine ct_if hF rfl (fun hc hF => ?_) (fun hc hF => ?_)
      · refine at_seq ?_
        refine at_region ?_
        refine sc_slit cStr (l := 0) ([([35, 102] : List UInt8), ([35, 116] : List UInt8)] : List (List UInt8)) tabOK rfl rfl rfl rfl rfl rfl rfl ?_
        refine sxk 2 tabOK rfl ?_
        obtain ⟨x3, hn_x3, hF⟩ := bnd_some hF
        refine sv rfl (oc_haddr cStr hn_x3 tabOK rfl rfl rfl rfl) rfl ?_
        refine sv rfl (oc_load cStr hn_x3 tabOK rfl rfl rfl rfl) rfl ?_
        refine sxk 1 tabOK rfl ?_
        refine aops_nil ?_
        refine at_ret ?_
        refine bk_r ?_
        refine tk_r ?_
        obtain rfl := Option.some.inj hF
        refine ret_le rfl ?_
        exact (vle_refl _)
      · refine at_seq ?_
        refine at_region ?_
        refine sxk 2 tabOK rfl ?_
        refine aops_nil ?_
        refine ct_if hF rfl (fun hc hF => ?_) (fun hc hF => ?_)
        · refine at_seq ?_
          refine at_region ?_
          refine sxk 2 tabOK rfl ?_
          obtain ⟨hb, hF⟩ := chk_some hF
          refine sv rfl (ov_cat rfl rfl hb) rfl ?_
          obtain ⟨hb, hF⟩ := chk_some hF
          refine sv rfl (ov_cat rfl rfl hb) rfl ?_
          refine sxk 1 tabOK rfl ?_
          refine aops_nil ?_
          refine at_ret ?_
          refine bk_r ?_
          refine tk_r ?_
          obtain rfl := Option.some.inj hF
          refine ret_le rfl ?_
          exact (vle_refl _)
        · refine at_skip ?_
          refine bk_n ?_
          refine at_seq ?_
          refine at_region ?_
          refine sc_slit cStr (l := 0) ([] : List (List UInt8)) tabOK rfl rfl rfl rfl rfl rfl rfl ?_
          refine sxk 1 tabOK rfl ?_
          refine aops_nil ?_
          refine at_seq ?_
          refine at_seq ?_
          refine at_region ?_
          refine sxk 2 tabOK rfl ?_
          refine sv rfl (oc_len cDat tabOK rfl rfl rfl) rfl ?_
          refine sxk 1 tabOK rfl ?_
          refine aops_nil ?_
          refine at_block ?_
          refine cl_loop (σ := Int × List (List UInt8)) (fun v => match v with | (x3, parts4) => ⟨[(3, .hsl 4 0 parts4.length), (32, .psl 0 4 (d.items.map (cDat.enc 0))), (33, .int .i64 (d.items.length : Int)), (34, .int .i64 x3)], [(4, ⟨1, parts4.map (cStr.enc 0)⟩)], 5, 48, []⟩) (s_l1Format_L1 s_l1Format d) LF (0, ([] : List (List UInt8))) hF (le_down (down_all (ee_cons rfl rfl (Nat.le_of_ble_eq_true rfl) (ee_cons rfl rfl (cDat.ok_psl _ rfl) (ee_cons rfl rfl rfl (ee_cons rfl rfl rfl ee_nil)))) (he_cons rfl rfl rfl (cStr.rows_ok _ rfl) he_nil) rfl rfl rfl rfl)) ?_
          rintro lk_ ⟨x3, parts4⟩ hF
          refine at_eq (s' := ⟨[(3, .hsl 4 0 parts4.length), (32, .psl 0 4 (d.items.map (cDat.enc 0))), (33, .int .i64 (d.items.length : Int)), (34, .int .i64 x3)], [(4, ⟨1, parts4.map (cStr.enc 0)⟩)], 5, 48, []⟩) rfl ?_
          replace hF : s_l1Format_L1b s_l1Format d (itr (s_l1Format_L1 s_l1Format d) lk_) x3 parts4 = some q := hF
          unfold s_l1Format_L1b at hF
          generalize itr (s_l1Format_L1 s_l1Format d) lk_ = go5 at hF ⊢
          refine at_seq ?_
          refine at_region ?_
          refine sxk 1 tabOK rfl ?_
          refine aops_nil ?_
          refine at_seq ?_
          refine ct_if hF rfl (fun hc hF => ?_) (fun hc hF => ?_)
          · refine at_skip ?_
            refine at_seq ?_
            refine at_block ?_
            refine at_seq ?_
            refine at_region ?_
            obtain ⟨x6, hn_x6, hF⟩ := bnd_some hF
            refine sv rfl (oc_addr cDat hn_x6 tabOK rfl rfl rfl rfl) rfl ?_
            refine sxk 3 tabOK rfl ?_
            refine aops_nil ?_
            refine at_region ?_
            refine sxk 2 tabOK rfl ?_
            obtain ⟨x7, hx7, hF⟩ := bnd_some hF
            refine call_eq (h_s_l1Format x6 x7 hx7) rfl ((rlL_cons (cDat.rl_agg (l := 0) (l' := 0) _ x6 rfl) rlL_nil)) rfl rfl ?_
            refine sc_slit cStr (l := 0) ([x7] : List (List UInt8)) tabOK rfl rfl rfl rfl rfl rfl rfl ?_
            obtain ⟨hb, hF⟩ := chk_some hF
            refine sc_append cStr (l := 0) (xs := parts4) (ys := ([x7] : List (List UInt8))) hb rfl tabOK rfl rfl rfl rfl rfl rfl rfl (srcC_hsl cStr rfl rfl rfl) rfl ?_
            refine sxk 1 tabOK rfl ?_
            refine aops_nil ?_
            refine bk_n ?_
            refine at_keep [3, 32, 33, 34] rfl ?_
            refine at_region ?_
            obtain ⟨hb, hF⟩ := chk_some hF
            refine s_add tabOK rfl rfl rfl hb rfl ?_
            refine sxk 1 tabOK rfl ?_
            refine aops_nil ?_
            exact arr_loop ⟨((x3 + 1), (parts4 ++ ([x7] : List (List UInt8)))), hF, (le_down (down_all (ee_cons rfl rfl (Nat.le_of_ble_eq_true rfl) (ee_cons rfl rfl (cDat.ok_psl _ rfl) (ee_cons rfl rfl rfl (ee_cons rfl rfl rfl ee_nil)))) (he_cons rfl rfl rfl (cStr.rows_ok _ rfl) he_nil) rfl rfl rfl rfl))⟩
          · refine at_exit ?_
            refine tk_x ?_
            refine ll_x ?_
            refine bk_hit ?_
            refine at_seq ?_
            refine at_region ?_
            refine sxk 1 tabOK rfl ?_
            obtain ⟨x6, hx6, hF⟩ := bnd_some hF
            refine call_rdx (s_l1Join_ok parts4 ([32] : List UInt8) x6 hx6) rfl (rdL_cons (rd_hslF rfl (by simp) (cStr.rlR _ 0 _)) (rdL_cons (rd_rl (rfl)) rdL_nil)) rfl rfl ?_
            obtain ⟨hb, hF⟩ := chk_some hF
            refine sv rfl (ov_cat rfl rfl hb) rfl ?_
            obtain ⟨hb, hF⟩ := chk_some hF
            refine sv rfl (ov_cat rfl rfl hb) rfl ?_
            refine sxk 1 tabOK rfl ?_
            refine aops_nil ?_
            refine at_ret ?_
            obtain rfl := Option.some.inj hF
            refine ret_le rfl ?_
            exact (vle_refl _)

theorem s_l1Format_all (n : Nat) : (∀ (d : PDat) (q : List UInt8), s_l1Format n d = some q → FC Tryd.prog 30 [.agg (cDat.row 0 d)] [] 3 (fun x _ => x = .str q)) := by
  induction n with
  | zero => exact fun _ q h => by cases h
  | succ n ih => exact fun d q h => s_l1Format_bok (s_l1Format n) ih d q h

theorem s_l1Format_ok (n : Nat) (d : PDat) (q : List UInt8) (hF : s_l1Format n d = some q) : FC Tryd.prog 30 [.agg (cDat.row 0 d)] [] 3 (fun x _ => x = .str q) := (s_l1Format_all n) d q hF

theorem s_l1In_ok (x_1 : Int) (a : Int) (b : Int) (q : Bool) (hF : s_l1In x_1 a b = some q) : FC Tryd.prog 20 [.int .i64 x_1, .int .i64 a, .int .i64 b] [] 3 (fun x _ => x = .bool q) := by
  refine FC.of_le ?_
  refine fc_body tabOK Tryd.func20 rfl Tryd.ntmps20 rfl rfl rfl ?_
  unfold s_l1In at hF
  refine at_seq ?_
  refine at_region ?_
  refine sxk 1 tabOK rfl ?_
  refine aops_nil ?_
  refine at_seq ?_
  refine at_region ?_
  refine sxk 4 tabOK rfl ?_
  refine ops_if (g := 10) hF rfl (fun hc hF => ?_) (fun hc hF => ?_)
  · refine sxk 5 tabOK rfl ?_
    refine aops_nil ?_
    refine at_ret ?_
    obtain rfl := Option.some.inj hF
    refine ret_le rfl ?_
    exact (vle_refl _)
  · refine sxk 5 tabOK rfl ?_
    refine aops_nil ?_
    refine at_ret ?_
    obtain rfl := Option.some.inj hF
    refine ret_le rfl ?_
    exact (vle_refl _)

theorem s_OpName_ok (op : Int) (q : List UInt8) (hF : s_OpName op = some q) : FC Tryd.prog 6 [.int .i64 op] [] 3 (fun x _ => x = .str q) := by
  refine FC.of_le ?_
  refine fc_body tabOK Tryd.func6 rfl Tryd.ntmps6 rfl rfl rfl ?_
  unfold s_OpName at hF
  refine at_seq ?_
  refine at_region ?_
  refine sxk 1 tabOK rfl ?_
  refine aops_nil ?_
  refine at_seq ?_
  refine at_seq ?_
  refine at_region ?_
  refine sxk 1 tabOK rfl ?_
  obtain ⟨x2, hx2, hF⟩ := bnd_some hF
  refine call_eq (s_l1In_ok op 1 20 x2 hx2) rfl ((rlL_cons (rfl) (rlL_cons (rfl) (rlL_cons (rfl) rlL_nil)))) rfl rfl ?_
  refine sxk 1 tabOK rfl ?_
  refine aops_nil ?_
  refine ct_bn hF rfl (fun hc hF => ?_) (fun hc hF => ?_)
  · refine at_seq ?_
    refine at_region ?_
    refine sxk 1 tabOK rfl ?_
    refine aops_nil ?_
    refine at_ret ?_
    refine tk_r ?_
    obtain rfl := Option.some.inj hF
    refine ret_le rfl ?_
    exact (vle_refl _)
  · refine at_skip ?_
    refine at_seq ?_
    refine at_region ?_
    refine sc_slit cStr (l := 0) ([([99, 111, 110, 115, 116, 97, 110, 116] : List UInt8), ([112, 114, 105, 109, 105, 116, 105, 118, 101] : List UInt8), ([108, 111, 99, 97, 108] : List UInt8), ([99, 97, 112, 116, 117, 114, 101, 100] : List UInt8), ([114, 101, 97, 100, 45, 108, 111, 99, 97, 108] : List UInt8), ([114, 101, 97, 100, 45, 98, 111, 120] : List UInt8), ([119, 114, 105, 116, 101, 45, 108, 111, 99, 97, 108] : List UInt8), ([119, 114, 105, 116, 101, 45, 98, 111, 120] : List UInt8), ([110, 101, 119, 45, 98, 111, 120] : List UInt8), ([98, 111, 120, 45, 112, 97, 114, 97, 109] : List UInt8), ([99, 108, 111, 115, 117, 114, 101] : List UInt8), ([99, 97, 108, 108] : List UInt8), ([116, 97, 105, 108, 45, 99, 97, 108, 108] : List UInt8), ([114, 101, 116, 117, 114, 110] : List UInt8), ([106, 117, 109, 112] : List UInt8), ([106, 117, 109, 112, 45, 105, 102, 45, 102, 97, 108, 115, 101] : List UInt8), ([112, 111, 112] : List UInt8), ([114, 101, 115, 101, 116] : List UInt8), ([115, 104, 105, 102, 116] : List UInt8), ([101, 110, 116, 101, 114] : List UInt8)] : List (List UInt8)) tabOK rfl rfl rfl rfl rfl rfl rfl ?_
    refine sxk 1 tabOK rfl ?_
    obtain ⟨hb, hF⟩ := chk_some hF
    refine s_sub tabOK rfl rfl rfl hb rfl ?_
    obtain ⟨x3, hn_x3, hF⟩ := bnd_some hF
    refine sv rfl (oc_haddr cStr hn_x3 tabOK rfl rfl rfl rfl) rfl ?_
    refine sv rfl (oc_load cStr hn_x3 tabOK rfl rfl rfl rfl) rfl ?_
    refine sxk 1 tabOK rfl ?_
    refine aops_nil ?_
    refine at_ret ?_
    obtain rfl := Option.some.inj hF
    refine ret_le rfl ?_
    exact (vle_refl _)

theorem s_l10Plain_ok (op : Int) (q : Bool) (hF : s_l10Plain op = some q) : FC Tryd.prog 31 [.int .i64 op] [] 3 (fun x _ => x = .bool q) := by
  refine FC.of_le ?_
  refine fc_body tabOK Tryd.func31 rfl Tryd.ntmps31 rfl rfl rfl ?_
  unfold s_l10Plain at hF
  refine at_seq ?_
  refine at_region ?_
  refine sxk 1 tabOK rfl ?_
  refine aops_nil ?_
  refine at_seq ?_
  refine at_region ?_
  refine sxk 3 tabOK rfl ?_
  refine ops_if (g := 5) hF rfl (fun hc hF => ?_) (fun hc hF => ?_)
  · refine sxk 4 tabOK rfl ?_
    refine aops_nil ?_
    refine at_ret ?_
    obtain rfl := Option.some.inj hF
    refine ret_le rfl ?_
    exact (vle_refl _)
  · refine sxk 4 tabOK rfl ?_
    refine aops_nil ?_
    refine at_ret ?_
    obtain rfl := Option.some.inj hF
    refine ret_le rfl ?_
    exact (vle_refl _)

theorem s_l1Few_bok (s_l1Few : PDat → Int → Option (Bool × Int)) (h_s_l1Few : ∀ (d : PDat) (left : Int) (q : Bool × Int), s_l1Few d left = some q → FC Tryd.prog 61 [.agg (cDat.row 0 d), .ptr 0 1 0 0] [(0, ⟨1, [cInt.row 1 left]⟩)] 3 (fun x h2 => x = .bool q.1 ∧ hget h2 0 = some ⟨1, [cInt.row 1 q.2]⟩)) (d : PDat) (left : Int) (q : Bool × Int) (hF : s_l1Few_b s_l1Few d left = some q) : FC Tryd.prog 61 [.agg (cDat.row 0 d), .ptr 0 1 0 0] [(0, ⟨1, [cInt.row 1 left]⟩)] 3 (fun x h2 => x = .bool q.1 ∧ hget h2 0 = some ⟨1, [cInt.row 1 q.2]⟩) := by
  refine FC.of_le_lent ?_
  refine fc_body tabOK Tryd.func61 rfl Tryd.ntmps61 rfl rfl rfl ?_
  unfold s_l1Few_b at hF
  refine at_seq ?_
  refine at_region ?_
  refine sxk 2 tabOK rfl ?_
  refine aops_nil ?_
  refine at_seq ?_
  refine at_region ?_
  refine sxk 4 tabOK rfl ?_
  obtain ⟨hb, hF⟩ := chk_some hF
  refine s_sub tabOK rfl rfl rfl hb rfl ?_
  refine sxk 2 tabOK rfl ?_
  refine aops_nil ?_
  refine at_seq ?_
  refine at_seq ?_
  refine at_keep [1, 2] rfl ?_
  refine at_region ?_
  refine sxk 1 tabOK rfl ?_
  refine aops_nil ?_
  refine at_block ?_
  refine cl_loop (σ := Int × Int) (fun v => match v with | (i4, left5) => ⟨[(1, .ptr 0 1 0 0), (2, .ptr 3 1 0 0), (5, .int .i64 i4)], [(0, ⟨1, [[.int .i64 left5]]⟩), (3, ⟨4, [cDat.row 0 d]⟩)], 4, 36, []⟩) (s_l1Few_L1 s_l1Few d) LF (0, (left - 1)) hF (le_down (down_all (ee_cons rfl rfl (Nat.le_of_ble_eq_true rfl) (ee_cons rfl rfl (Nat.le_of_ble_eq_true rfl) (ee_cons rfl rfl rfl ee_nil))) (he_cons rfl rfl rfl (row_one ⟨rfl, trivial⟩) (he_cons rfl rfl rfl (row_one (cDat.row_ok _ rfl)) he_nil)) rfl rfl rfl rfl)) ?_
  rintro lk_ ⟨i4, left5⟩ hF
  refine at_eq (s' := ⟨[(1, .ptr 0 1 0 0), (2, .ptr 3 1 0 0), (5, .int .i64 i4)], [(0, ⟨1, [[.int .i64 left5]]⟩), (3, ⟨4, [cDat.row 0 d]⟩)], 4, 36, []⟩) rfl ?_
  replace hF : s_l1Few_L1b s_l1Few d (itr (s_l1Few_L1 s_l1Few d) lk_) i4 left5 = some q := hF
  unfold s_l1Few_L1b at hF
  generalize itr (s_l1Few_L1 s_l1Few d) lk_ = go6 at hF ⊢
  refine at_seq ?_
  refine at_seq ?_
  refine cl_midn (σ := Bool) (fun x7 => ⟨[(1, .ptr 0 1 0 0), (2, .ptr 3 1 0 0), (5, .int .i64 i4), (22, .bool x7)], [(0, ⟨1, [[.int .i64 left5]]⟩), (3, ⟨4, [cDat.row 0 d]⟩)], 4, 36, []⟩) (fun x7 => s_l1Few_J2 s_l1Few d i4 left5 go6 x7 = some q) ?_ ?_
  · refine at_region ?_
    refine sxk 3 tabOK rfl ?_
    refine sv rfl (oc_len cDat tabOK rfl rfl rfl) rfl ?_
    refine sxk 2 tabOK rfl ?_
    refine ops_if (g := 17) hF rfl (fun hc hF => ?_) (fun hc hF => ?_)
    · refine sxk 5 tabOK rfl ?_
      refine aops_nil ?_
      exact arr_cut ⟨(decide (left5 ≥ 0)), hF, (le_down (down_all (ee_cons rfl rfl (Nat.le_of_ble_eq_true rfl) (ee_cons rfl rfl (Nat.le_of_ble_eq_true rfl) (ee_cons rfl rfl rfl (ee_cons rfl rfl rfl ee_nil)))) (he_cons rfl rfl rfl (row_one ⟨rfl, trivial⟩) (he_cons rfl rfl rfl (row_one (cDat.row_ok _ rfl)) he_nil)) rfl rfl rfl rfl))⟩
    · refine sxk 5 tabOK rfl ?_
      refine aops_nil ?_
      exact arr_cut ⟨false, hF, (le_down (down_all (ee_cons rfl rfl (Nat.le_of_ble_eq_true rfl) (ee_cons rfl rfl (Nat.le_of_ble_eq_true rfl) (ee_cons rfl rfl rfl (ee_cons rfl rfl rfl ee_nil)))) (he_cons rfl rfl rfl (row_one ⟨rfl, trivial⟩) (he_cons rfl rfl rfl (row_one (cDat.row_ok _ rfl)) he_nil)) rfl rfl rfl rfl))⟩
  · rintro x7 hF
    refine at_eq (s' := ⟨[(1, .ptr 0 1 0 0), (2, .ptr 3 1 0 0), (5, .int .i64 i4), (22, .bool x7)], [(0, ⟨1, [[.int .i64 left5]]⟩), (3, ⟨4, [cDat.row 0 d]⟩)], 4, 36, []⟩) rfl ?_
    replace hF : s_l1Few_J2 s_l1Few d i4 left5 go6 x7 = some q := hF
    unfold s_l1Few_J2 at hF
    refine ct_b hF rfl (fun hc hF => ?_) (fun hc hF => ?_)
    · refine at_skip ?_
      refine at_seq ?_
      refine at_block ?_
      refine at_region ?_
      refine sxk 3 tabOK rfl ?_
      obtain ⟨x8, hn_x8, hF⟩ := bnd_some hF
      refine sv rfl (oc_addr cDat hn_x8 tabOK rfl rfl rfl rfl) rfl ?_
      refine sxk 2 tabOK rfl ?_
      obtain ⟨x9, hx9, hF⟩ := bnd_some hF
      refine call_lend1 0 (h_s_l1Few x8 left5 x9 hx9) rfl (rnL_cons (rn_of_rl _ (cDat.rl_agg (l := 0) (l' := 0) _ x8 rfl)) (rnL_cons rfl rnL_nil)) rfl rfl rfl rfl rfl ?_
      refine aops_nil ?_
      refine bk_n ?_
      refine at_keep [1, 2, 5] rfl ?_
      refine at_region ?_
      refine sxk 1 tabOK rfl ?_
      obtain ⟨hb, hF⟩ := chk_some hF
      refine s_add tabOK rfl rfl rfl hb rfl ?_
      refine sxk 1 tabOK rfl ?_
      refine aops_nil ?_
      exact arr_loop ⟨((i4 + 1), x9.2), hF, (le_down (down_all (ee_cons rfl rfl (Nat.le_of_ble_eq_true rfl) (ee_cons rfl rfl (Nat.le_of_ble_eq_true rfl) (ee_cons rfl rfl rfl ee_nil))) (he_cons rfl rfl rfl (row_one ⟨rfl, trivial⟩) (he_cons rfl rfl rfl (row_one (cDat.row_ok _ rfl)) he_nil)) rfl rfl rfl rfl))⟩
    · refine at_exit ?_
      refine tk_x ?_
      refine ll_x ?_
      refine bk_hit ?_
      refine at_seq ?_
      refine at_region ?_
      refine sxk 5 tabOK rfl ?_
      refine aops_nil ?_
      refine at_ret ?_
      obtain rfl := Option.some.inj hF
      exact ret_lent rfl ((vle_refl _)) rfl

theorem s_l1Few_all (n : Nat) : (∀ (d : PDat) (left : Int) (q : Bool × Int), s_l1Few n d left = some q → FC Tryd.prog 61 [.agg (cDat.row 0 d), .ptr 0 1 0 0] [(0, ⟨1, [cInt.row 1 left]⟩)] 3 (fun x h2 => x = .bool q.1 ∧ hget h2 0 = some ⟨1, [cInt.row 1 q.2]⟩)) := by
  induction n with
  | zero => exact fun _ _ q h => by cases h
  | succ n ih => exact fun d left q h => s_l1Few_bok (s_l1Few n) ih d left q h

theorem s_l1Few_ok (n : Nat) (d : PDat) (left : Int) (q : Bool × Int) (hF : s_l1Few n d left = some q) : FC Tryd.prog 61 [.agg (cDat.row 0 d), .ptr 0 1 0 0] [(0, ⟨1, [cInt.row 1 left]⟩)] 3 (fun x h2 => x = .bool q.1 ∧ hget h2 0 = some ⟨1, [cInt.row 1 q.2]⟩) := (s_l1Few_all n) d left q hF

theorem s_DepthOf_bok (s_DepthOf : PDat → Option Int) (h_s_DepthOf : ∀ (d : PDat) (q : Int), s_DepthOf d = some q → FC Tryd.prog 62 [.agg (cDat.row 0 d)] [] 3 (fun x _ => x = .int .i64 q)) (d : PDat) (q : Int) (hF : s_DepthOf_b s_DepthOf d = some q) : FC Tryd.prog 62 [.agg (cDat.row 0 d)] [] 3 (fun x _ => x = .int .i64 q) := by
  refine FC.of_le ?_
  refine fc_body tabOK Tryd.func62 rfl Tryd.ntmps62 rfl rfl rfl ?_
  unfold s_DepthOf_b at hF
  refine at_seq ?_
  refine at_region ?_
  refine sxk 2 tabOK rfl ?_
  refine aops_nil ?_
  refine at_seq ?_
  refine at_region ?_
  refine sxk 1 tabOK rfl ?_
  refine aops_nil ?_
  refine at_seq ?_
  refine at_seq ?_
  refine at_region ?_
  refine sxk 2 tabOK rfl ?_
  refine sv rfl (oc_len cDat tabOK rfl rfl rfl) rfl ?_
  refine sxk 1 tabOK rfl ?_
  refine aops_nil ?_
  refine at_block ?_
  refine cl_loop (σ := Int × Int) (fun v => match v with | (x3, x4) => ⟨[(3, .int .i64 x3), (7, .psl 0 4 (d.items.map (cDat.enc 0))), (8, .int .i64 (d.items.length : Int)), (9, .int .i64 x4)], [], 4, 20, []⟩) (s_DepthOf_L1 s_DepthOf d) LF (0, 0) hF (le_down (down_all (ee_cons rfl rfl rfl (ee_cons rfl rfl (cDat.ok_psl _ rfl) (ee_cons rfl rfl rfl (ee_cons rfl rfl rfl ee_nil)))) he_nil rfl rfl rfl rfl)) ?_
  rintro lk_ ⟨x3, x4⟩ hF
  refine at_eq (s' := ⟨[(3, .int .i64 x3), (7, .psl 0 4 (d.items.map (cDat.enc 0))), (8, .int .i64 (d.items.length : Int)), (9, .int .i64 x4)], [], 4, 20, []⟩) rfl ?_
  replace hF : s_DepthOf_L1b s_DepthOf d (itr (s_DepthOf_L1 s_DepthOf d) lk_) x3 x4 = some q := hF
  unfold s_DepthOf_L1b at hF
  generalize itr (s_DepthOf_L1 s_DepthOf d) lk_ = go5 at hF ⊢
  refine at_seq ?_
  refine at_region ?_
  refine sxk 1 tabOK rfl ?_
  refine aops_nil ?_
  refine at_seq ?_
  refine ct_if hF rfl (fun hc hF => ?_) (fun hc hF => ?_)
  · refine at_skip ?_
    refine at_seq ?_
    refine at_block ?_
    refine at_seq ?_
    refine at_region ?_
    obtain ⟨x6, hn_x6, hF⟩ := bnd_some hF
    refine sv rfl (oc_addr cDat hn_x6 tabOK rfl rfl rfl rfl) rfl ?_
    refine sxk 3 tabOK rfl ?_
    refine aops_nil ?_
    refine at_region ?_
    refine sxk 2 tabOK rfl ?_
    obtain ⟨x7, hx7, hF⟩ := bnd_some hF
    refine call_eq (h_s_DepthOf x6 x7 hx7) rfl ((rlL_cons (cDat.rl_agg (l := 0) (l' := 0) _ x6 rfl) rlL_nil)) rfl rfl ?_
    refine sv rfl (ov_max rfl rfl) rfl ?_
    refine sxk 1 tabOK rfl ?_
    refine aops_nil ?_
    refine bk_n ?_
    refine at_keep [3, 7, 8, 9] rfl ?_
    refine at_region ?_
    obtain ⟨hb, hF⟩ := chk_some hF
    refine s_add tabOK rfl rfl rfl hb rfl ?_
    refine sxk 1 tabOK rfl ?_
    refine aops_nil ?_
    exact arr_loop ⟨((max x3 x7), (x4 + 1)), hF, (le_down (down_all (ee_cons rfl rfl rfl (ee_cons rfl rfl (cDat.ok_psl _ rfl) (ee_cons rfl rfl rfl (ee_cons rfl rfl rfl ee_nil)))) he_nil rfl rfl rfl rfl))⟩
  · refine at_exit ?_
    refine tk_x ?_
    refine ll_x ?_
    refine bk_hit ?_
    refine at_seq ?_
    refine at_region ?_
    refine sxk 1 tabOK rfl ?_
    obtain ⟨hb, hF⟩ := chk_some hF
    refine s_add tabOK rfl rfl rfl hb rfl ?_
    refine sxk 1 tabOK rfl ?_
    refine aops_nil ?_
    refine at_ret ?_
    obtain rfl := Option.some.inj hF
    refine ret_le rfl ?_
    exact (vle_refl _)

theorem s_DepthOf_all (n : Nat) : (∀ (d : PDat) (q : Int), s_DepthOf n d = some q → FC Tryd.prog 62 [.agg (cDat.row 0 d)] [] 3 (fun x _ => x = .int .i64 q)) := by
  induction n with
  | zero => exact fun _ q h => by cases h
  | succ n ih => exact fun d q h => s_DepthOf_bok (s_DepthOf n) ih d q h

theorem s_DepthOf_ok (n : Nat) (d : PDat) (q : Int) (hF : s_DepthOf n d = some q) : FC Tryd.prog 62 [.agg (cDat.row 0 d)] [] 3 (fun x _ => x = .int .i64 q) := (s_DepthOf_all n) d q hF

theorem s_l1Digit_ok (b : Int) (q : Bool) (hF : s_l1Digit b = some q) : FC Tryd.prog 66 [.int .u8 b] [] 3 (fun x _ => x = .bool q) := by
  refine FC.of_le ?_
  refine fc_body tabOK Tryd.func66 rfl Tryd.ntmps66 rfl rfl rfl ?_
  unfold s_l1Digit at hF
  refine at_seq ?_
  refine at_region ?_
  refine sxk 1 tabOK rfl ?_
  refine aops_nil ?_
  refine at_seq ?_
  refine at_region ?_
  refine sxk 3 tabOK rfl ?_
  refine ops_if (g := 5) hF rfl (fun hc hF => ?_) (fun hc hF => ?_)
  · refine sxk 4 tabOK rfl ?_
    refine aops_nil ?_
    refine at_ret ?_
    obtain rfl := Option.some.inj hF
    refine ret_le rfl ?_
    exact (vle_refl _)
  · refine sxk 4 tabOK rfl ?_
    refine aops_nil ?_
    refine at_ret ?_
    obtain rfl := Option.some.inj hF
    refine ret_le rfl ?_
    exact (vle_refl _)

theorem s_l1Mark_ok (b : Int) (q : Bool) (hF : s_l1Mark b = some q) : FC Tryd.prog 67 [.int .u8 b] [] 3 (fun x _ => x = .bool q) := by
  refine FC.of_le ?_
  refine fc_body tabOK Tryd.func67 rfl Tryd.ntmps67 rfl rfl rfl ?_
  unfold s_l1Mark at hF
  refine at_seq ?_
  refine at_region ?_
  refine sxk 1 tabOK rfl ?_
  refine aops_nil ?_
  refine at_seq ?_
  refine at_seq ?_
  refine cl_midn (σ := Bool) (fun x2 => ⟨[(0, .int .u8 b), (14, .bool x2)], [], 3, 26, []⟩) (fun x2 => s_l1Mark_J1 b x2 = some q) ?_ ?_
  · refine at_region ?_
    refine sxk 3 tabOK rfl ?_
    refine ops_if (g := 7) hF rfl (fun hc hF => ?_) (fun hc hF => ?_)
    · refine sxk 4 tabOK rfl ?_
      refine ops_if (g := 11) hF rfl (fun hc hF => ?_) (fun hc hF => ?_)
      · refine sxk 3 tabOK rfl ?_
        refine aops_nil ?_
        exact arr_cut ⟨true, hF, (le_down (down_all (ee_cons rfl rfl rfl (ee_cons rfl rfl rfl ee_nil)) he_nil rfl rfl rfl rfl))⟩
      · refine sxk 1 tabOK rfl ?_
        obtain ⟨x2, hx2, hF⟩ := bnd_some hF
        refine call_eq (s_l1Digit_ok b x2 hx2) rfl ((rlL_cons (rfl) rlL_nil)) rfl rfl ?_
        refine sxk 1 tabOK rfl ?_
        refine aops_nil ?_
        exact arr_cut ⟨x2, hF, (le_down (down_all (ee_cons rfl rfl rfl (ee_cons rfl rfl rfl ee_nil)) he_nil rfl rfl rfl rfl))⟩
    · refine sxk 5 tabOK rfl ?_
      obtain ⟨x2, hx2, hF⟩ := bnd_some hF
      refine call_eq (s_l1Digit_ok b x2 hx2) rfl ((rlL_cons (rfl) rlL_nil)) rfl rfl ?_
      refine sxk 1 tabOK rfl ?_
      refine aops_nil ?_
      exact arr_cut ⟨x2, hF, (le_down (down_all (ee_cons rfl rfl rfl (ee_cons rfl rfl rfl ee_nil)) he_nil rfl rfl rfl rfl))⟩
  · rintro x2 hF
    refine at_eq (s' := ⟨[(0, .int .u8 b), (14, .bool x2)], [], 3, 26, []⟩) rfl ?_
    replace hF : s_l1Mark_J1 b x2 = some q := hF
    unfold s_l1Mark_J1 at hF
    refine ct_b hF rfl (fun hc hF => ?_) (fun hc hF => ?_)
    · refine at_seq ?_
      refine at_region ?_
      refine sxk 1 tabOK rfl ?_
      refine aops_nil ?_
      refine at_ret ?_
      refine tk_r ?_
      obtain rfl := Option.some.inj hF
      refine ret_le rfl ?_
      exact (vle_refl _)
    · refine at_skip ?_
      refine at_seq ?_
      refine at_region ?_
      refine sxk 1 tabOK rfl ?_
      refine aops_nil ?_
      refine at_seq ?_
      refine at_seq ?_
      refine at_region ?_
      refine sxk 1 tabOK rfl ?_
      refine aops_nil ?_
      refine at_block ?_
      refine cl_loop (σ := Int) (fun i3 => ⟨[(0, .int .u8 b), (3, .str ([33, 63, 42, 60, 62, 61, 47, 43, 45, 46, 95] : List UInt8)), (4, .int .i64 i3)], [], 3, 26, []⟩) (s_l1Mark_L2 b) LF 0 hF (le_down (down_all (ee_cons rfl rfl rfl (ee_cons rfl rfl rfl (ee_cons rfl rfl rfl ee_nil))) he_nil rfl rfl rfl rfl)) ?_
      rintro lk_ i3 hF
      refine at_eq (s' := ⟨[(0, .int .u8 b), (3, .str ([33, 63, 42, 60, 62, 61, 47, 43, 45, 46, 95] : List UInt8)), (4, .int .i64 i3)], [], 3, 26, []⟩) rfl ?_
      replace hF : s_l1Mark_L2b b (itr (s_l1Mark_L2 b) lk_) i3 = some q := hF
      unfold s_l1Mark_L2b at hF
      generalize itr (s_l1Mark_L2 b) lk_ = go4 at hF ⊢
      refine at_seq ?_
      refine at_seq ?_
      refine at_region ?_
      refine sxk 4 tabOK rfl ?_
      refine aops_nil ?_
      refine ct_if hF rfl (fun hc hF => ?_) (fun hc hF => ?_)
      · refine at_skip ?_
        refine at_seq ?_
        refine at_block ?_
        refine at_seq ?_
        refine at_region ?_
        refine sxk 2 tabOK rfl ?_
        obtain ⟨x5, hn_x5, hF⟩ := bnd_some hF
        refine sv rfl (oc_byte hn_x5 tabOK rfl rfl rfl) rfl ?_
        refine sxk 2 tabOK rfl ?_
        refine aops_nil ?_
        refine ct_if hF rfl (fun hc hF => ?_) (fun hc hF => ?_)
        · refine at_seq ?_
          refine at_keep [] rfl ?_
          refine at_region ?_
          refine sxk 1 tabOK rfl ?_
          refine aops_nil ?_
          refine at_ret ?_
          refine bk_r ?_
          refine tk_r ?_
          refine ll_r ?_
          refine bk_r ?_
          refine tk_r ?_
          obtain rfl := Option.some.inj hF
          refine ret_le rfl ?_
          exact (vle_refl _)
        · refine at_skip ?_
          refine bk_n ?_
          refine at_keep [0, 3, 4] rfl ?_
          refine at_region ?_
          refine sxk 1 tabOK rfl ?_
          obtain ⟨hb, hF⟩ := chk_some hF
          refine s_add tabOK rfl rfl rfl hb rfl ?_
          refine sxk 1 tabOK rfl ?_
          refine aops_nil ?_
          exact arr_loop ⟨(i3 + 1), hF, (le_down (down_all (ee_cons rfl rfl rfl (ee_cons rfl rfl rfl (ee_cons rfl rfl rfl ee_nil))) he_nil rfl rfl rfl rfl))⟩
      · refine at_exit ?_
        refine tk_x ?_
        refine ll_x ?_
        refine bk_hit ?_
        refine at_seq ?_
        refine at_keep [] rfl ?_
        refine at_region ?_
        refine sxk 1 tabOK rfl ?_
        refine aops_nil ?_
        refine at_ret ?_
        obtain rfl := Option.some.inj hF
        refine ret_le rfl ?_
        exact (vle_refl _)

theorem s_IsSymbol_ok (s : List UInt8) (q : Bool) (hF : s_IsSymbol s = some q) : FC Tryd.prog 55 [.str s] [] 3 (fun x _ => x = .bool q) := by
  refine FC.of_le ?_
  refine fc_body tabOK Tryd.func55 rfl Tryd.ntmps55 rfl rfl rfl ?_
  unfold s_IsSymbol at hF
  refine at_seq ?_
  refine at_region ?_
  refine sxk 1 tabOK rfl ?_
  refine aops_nil ?_
  refine at_seq ?_
  refine at_seq ?_
  refine cl_midn (σ := Bool) (fun x2 => ⟨[(0, .str s), (27, .bool x2)], [], 3, 39, []⟩) (fun x2 => s_IsSymbol_J1 s x2 = some q) ?_ ?_
  · refine at_region ?_
    refine sxk 2 tabOK rfl ?_
    obtain ⟨x2, hx2, hF⟩ := bnd_some hF
    refine call_eq (s_l1In_ok (s.length : Int) 1 16 x2 hx2) rfl ((rlL_cons (rfl) (rlL_cons (rfl) (rlL_cons (rfl) rlL_nil)))) rfl rfl ?_
    refine sxk 2 tabOK rfl ?_
    refine ops_ifnb (g := 8) hF rfl (fun hc hF => ?_) (fun hc hF => ?_)
    · refine sxk 19 tabOK rfl ?_
      refine aops_nil ?_
      exact arr_cut ⟨true, hF, (le_down (down_all (ee_cons rfl rfl rfl (ee_cons rfl rfl rfl ee_nil)) he_nil rfl rfl rfl rfl))⟩
    · refine sxk 1 tabOK rfl ?_
      obtain ⟨x3, hn_x3, hF⟩ := bnd_some hF
      refine sv rfl (oc_byte hn_x3 tabOK rfl rfl rfl) rfl ?_
      obtain ⟨x4, hx4, hF⟩ := bnd_some hF
      refine call_eq (s_l1Digit_ok (x3.toNat : Int) x4 hx4) rfl ((rlL_cons (rfl) rlL_nil)) rfl rfl ?_
      refine sxk 2 tabOK rfl ?_
      refine ops_ifb (g := 13) hF rfl (fun hc hF => ?_) (fun hc hF => ?_)
      · refine sxk 14 tabOK rfl ?_
        refine aops_nil ?_
        exact arr_cut ⟨true, hF, (le_down (down_all (ee_cons rfl rfl rfl (ee_cons rfl rfl rfl ee_nil)) he_nil rfl rfl rfl rfl))⟩
      · refine sxk 1 tabOK rfl ?_
        obtain ⟨x5, hn_x5, hF⟩ := bnd_some hF
        refine sv rfl (oc_byte hn_x5 tabOK rfl rfl rfl) rfl ?_
        refine sxk 2 tabOK rfl ?_
        refine ops_if (g := 17) hF rfl (fun hc hF => ?_) (fun hc hF => ?_)
        · refine sxk 5 tabOK rfl ?_
          refine ops_if (g := 22) hF rfl (fun hc hF => ?_) (fun hc hF => ?_)
          · refine sxk 1 tabOK rfl ?_
            obtain ⟨x6, hn_x6, hF⟩ := bnd_some hF
            refine sv rfl (oc_byte hn_x6 tabOK rfl rfl rfl) rfl ?_
            obtain ⟨x7, hx7, hF⟩ := bnd_some hF
            refine call_eq (s_l1Digit_ok (x6.toNat : Int) x7 hx7) rfl ((rlL_cons (rfl) rlL_nil)) rfl rfl ?_
            refine sxk 2 tabOK rfl ?_
            refine aops_nil ?_
            exact arr_cut ⟨x7, hF, (le_down (down_all (ee_cons rfl rfl rfl (ee_cons rfl rfl rfl ee_nil)) he_nil rfl rfl rfl rfl))⟩
          · refine sxk 5 tabOK rfl ?_
            refine aops_nil ?_
            exact arr_cut ⟨false, hF, (le_down (down_all (ee_cons rfl rfl rfl (ee_cons rfl rfl rfl ee_nil)) he_nil rfl rfl rfl rfl))⟩
        · refine sxk 10 tabOK rfl ?_
          refine aops_nil ?_
          exact arr_cut ⟨false, hF, (le_down (down_all (ee_cons rfl rfl rfl (ee_cons rfl rfl rfl ee_nil)) he_nil rfl rfl rfl rfl))⟩
  · rintro x2 hF
    refine at_eq (s' := ⟨[(0, .str s), (27, .bool x2)], [], 3, 39, []⟩) rfl ?_
    replace hF : s_IsSymbol_J1 s x2 = some q := hF
    unfold s_IsSymbol_J1 at hF
    refine ct_b hF rfl (fun hc hF => ?_) (fun hc hF => ?_)
    · refine at_seq ?_
      refine at_region ?_
      refine sxk 1 tabOK rfl ?_
      refine aops_nil ?_
      refine at_ret ?_
      refine tk_r ?_
      obtain rfl := Option.some.inj hF
      refine ret_le rfl ?_
      exact (vle_refl _)
    · refine at_skip ?_
      refine at_seq ?_
      refine at_seq ?_
      refine at_region ?_
      refine sxk 1 tabOK rfl ?_
      refine aops_nil ?_
      refine at_block ?_
      refine cl_loop (σ := Int) (fun i3 => ⟨[(0, .str s), (3, .int .i64 i3)], [], 3, 39, []⟩) (s_IsSymbol_L2 s) LF 0 hF (le_down (down_all (ee_cons rfl rfl rfl (ee_cons rfl rfl rfl ee_nil)) he_nil rfl rfl rfl rfl)) ?_
      rintro lk_ i3 hF
      refine at_eq (s' := ⟨[(0, .str s), (3, .int .i64 i3)], [], 3, 39, []⟩) rfl ?_
      replace hF : s_IsSymbol_L2b s (itr (s_IsSymbol_L2 s) lk_) i3 = some q := hF
      unfold s_IsSymbol_L2b at hF
      generalize itr (s_IsSymbol_L2 s) lk_ = go4 at hF ⊢
      refine at_seq ?_
      refine at_seq ?_
      refine at_region ?_
      refine sxk 4 tabOK rfl ?_
      refine aops_nil ?_
      refine ct_if hF rfl (fun hc hF => ?_) (fun hc hF => ?_)
      · refine at_skip ?_
        refine at_seq ?_
        refine at_block ?_
        refine at_seq ?_
        refine at_region ?_
        refine sxk 2 tabOK rfl ?_
        obtain ⟨x5, hn_x5, hF⟩ := bnd_some hF
        refine sv rfl (oc_byte hn_x5 tabOK rfl rfl rfl) rfl ?_
        obtain ⟨x6, hx6, hF⟩ := bnd_some hF
        refine call_eq (s_l1Mark_ok (x5.toNat : Int) x6 hx6) rfl ((rlL_cons (rfl) rlL_nil)) rfl rfl ?_
        refine sxk 1 tabOK rfl ?_
        refine aops_nil ?_
        refine ct_bn hF rfl (fun hc hF => ?_) (fun hc hF => ?_)
        · refine at_seq ?_
          refine at_keep [] rfl ?_
          refine at_region ?_
          refine sxk 1 tabOK rfl ?_
          refine aops_nil ?_
          refine at_ret ?_
          refine bk_r ?_
          refine tk_r ?_
          refine ll_r ?_
          refine bk_r ?_
          refine tk_r ?_
          obtain rfl := Option.some.inj hF
          refine ret_le rfl ?_
          exact (vle_refl _)
        · refine at_skip ?_
          refine bk_n ?_
          refine at_keep [0, 3] rfl ?_
          refine at_region ?_
          refine sxk 1 tabOK rfl ?_
          obtain ⟨hb, hF⟩ := chk_some hF
          refine s_add tabOK rfl rfl rfl hb rfl ?_
          refine sxk 1 tabOK rfl ?_
          refine aops_nil ?_
          exact arr_loop ⟨(i3 + 1), hF, (le_down (down_all (ee_cons rfl rfl rfl (ee_cons rfl rfl rfl ee_nil)) he_nil rfl rfl rfl rfl))⟩
      · refine at_exit ?_
        refine tk_x ?_
        refine ll_x ?_
        refine bk_hit ?_
        refine at_seq ?_
        refine at_region ?_
        refine sxk 1 tabOK rfl ?_
        refine aops_nil ?_
        refine at_ret ?_
        obtain rfl := Option.some.inj hF
        refine ret_le rfl ?_
        exact (vle_refl _)

theorem s_l1String_ok (s : List UInt8) (q : Bool) (hF : s_l1String s = some q) : FC Tryd.prog 56 [.str s] [] 3 (fun x _ => x = .bool q) := by
  refine FC.of_le ?_
  refine fc_body tabOK Tryd.func56 rfl Tryd.ntmps56 rfl rfl rfl ?_
  unfold s_l1String at hF
  refine at_seq ?_
  refine at_region ?_
  refine sxk 1 tabOK rfl ?_
  refine aops_nil ?_
  refine at_seq ?_
  refine at_seq ?_
  refine at_region ?_
  refine sxk 1 tabOK rfl ?_
  refine aops_nil ?_
  refine at_block ?_
  refine cl_loop (σ := Int) (fun i2 => ⟨[(0, .str s), (3, .int .i64 i2)], [], 3, 29, []⟩) (s_l1String_L1 s) LF 0 hF (le_down (down_all (ee_cons rfl rfl rfl (ee_cons rfl rfl rfl ee_nil)) he_nil rfl rfl rfl rfl)) ?_
  rintro lk_ i2 hF
  refine at_eq (s' := ⟨[(0, .str s), (3, .int .i64 i2)], [], 3, 29, []⟩) rfl ?_
  replace hF : s_l1String_L1b s (itr (s_l1String_L1 s) lk_) i2 = some q := hF
  unfold s_l1String_L1b at hF
  generalize itr (s_l1String_L1 s) lk_ = go3 at hF ⊢
  refine at_seq ?_
  refine at_seq ?_
  refine at_region ?_
  refine sxk 4 tabOK rfl ?_
  refine aops_nil ?_
  refine ct_if hF rfl (fun hc hF => ?_) (fun hc hF => ?_)
  · refine at_skip ?_
    refine at_seq ?_
    refine at_block ?_
    refine at_seq ?_
    refine at_region ?_
    refine sxk 2 tabOK rfl ?_
    obtain ⟨x4, hn_x4, hF⟩ := bnd_some hF
    refine sv rfl (oc_byte hn_x4 tabOK rfl rfl rfl) rfl ?_
    refine sxk 2 tabOK rfl ?_
    refine ops_if (g := 14) hF rfl (fun hc hF => ?_) (fun hc hF => ?_)
    · refine sxk 11 tabOK rfl ?_
      refine aops_nil ?_
      refine at_true rfl ?_
      refine at_seq ?_
      refine at_keep [] rfl ?_
      refine at_region ?_
      refine sxk 1 tabOK rfl ?_
      refine aops_nil ?_
      refine at_ret ?_
      refine bk_r ?_
      refine tk_r ?_
      refine ll_r ?_
      refine bk_r ?_
      refine tk_r ?_
      obtain rfl := Option.some.inj hF
      refine ret_le rfl ?_
      exact (vle_refl _)
    · refine sxk 2 tabOK rfl ?_
      obtain ⟨x5, hn_x5, hF⟩ := bnd_some hF
      refine sv rfl (oc_byte hn_x5 tabOK rfl rfl rfl) rfl ?_
      refine sxk 3 tabOK rfl ?_
      refine ops_if (g := 20) hF rfl (fun hc hF => ?_) (fun hc hF => ?_)
      · refine sxk 5 tabOK rfl ?_
        refine aops_nil ?_
        refine at_true rfl ?_
        refine at_seq ?_
        refine at_keep [] rfl ?_
        refine at_region ?_
        refine sxk 1 tabOK rfl ?_
        refine aops_nil ?_
        refine at_ret ?_
        refine bk_r ?_
        refine tk_r ?_
        refine ll_r ?_
        refine bk_r ?_
        refine tk_r ?_
        obtain rfl := Option.some.inj hF
        refine ret_le rfl ?_
        exact (vle_refl _)
      · refine sxk 2 tabOK rfl ?_
        obtain ⟨x6, hn_x6, hF⟩ := bnd_some hF
        refine sv rfl (oc_byte hn_x6 tabOK rfl rfl rfl) rfl ?_
        refine sxk 2 tabOK rfl ?_
        refine aops_nil ?_
        refine ct_if hF rfl (fun hc hF => ?_) (fun hc hF => ?_)
        · refine at_seq ?_
          refine at_keep [] rfl ?_
          refine at_region ?_
          refine sxk 1 tabOK rfl ?_
          refine aops_nil ?_
          refine at_ret ?_
          refine bk_r ?_
          refine tk_r ?_
          refine ll_r ?_
          refine bk_r ?_
          refine tk_r ?_
          obtain rfl := Option.some.inj hF
          refine ret_le rfl ?_
          exact (vle_refl _)
        · refine at_skip ?_
          refine bk_n ?_
          refine at_keep [0, 3, 15, 16, 17, 18, 21, 22, 23, 24] rfl ?_
          refine at_region ?_
          refine sxk 1 tabOK rfl ?_
          obtain ⟨hb, hF⟩ := chk_some hF
          refine s_add tabOK rfl rfl rfl hb rfl ?_
          refine sxk 1 tabOK rfl ?_
          refine aops_nil ?_
          exact arr_loop ⟨(i2 + 1), hF, (le_down (down_all (ee_cons rfl rfl rfl (ee_cons rfl rfl rfl ee_nil)) he_nil rfl rfl rfl rfl))⟩
  · refine at_exit ?_
    refine tk_x ?_
    refine ll_x ?_
    refine bk_hit ?_
    refine at_seq ?_
    refine at_region ?_
    refine sxk 4 tabOK rfl ?_
    refine aops_nil ?_
    refine at_ret ?_
    obtain rfl := Option.some.inj hF
    refine ret_le rfl ?_
    exact (vle_refl _)

theorem s_l1Node_ok (kind : Int) (number : Int) (text : List UInt8) (items : Int) (q : Bool) (hF : s_l1Node kind number text items = some q) : FC Tryd.prog 70 [.int .i64 kind, .int .i64 number, .str text, .int .i64 items] [] 3 (fun x _ => x = .bool q) := by
  refine FC.of_le ?_
  refine fc_body tabOK Tryd.func70 rfl Tryd.ntmps70 rfl rfl rfl ?_
  unfold s_l1Node at hF
  refine at_seq ?_
  refine at_region ?_
  refine sxk 1 tabOK rfl ?_
  refine aops_nil ?_
  refine at_seq ?_
  refine at_seq ?_
  refine at_region ?_
  refine sxk 1 tabOK rfl ?_
  refine aops_nil ?_
  refine at_block ?_
  refine at_seq ?_
  refine at_region ?_
  refine sxk 2 tabOK rfl ?_
  refine aops_nil ?_
  refine ct_if hF rfl (fun hc hF => ?_) (fun hc hF => ?_)
  · refine at_seq ?_
    refine at_region ?_
    refine sxk 3 tabOK rfl ?_
    refine ops_if (g := 14) hF rfl (fun hc hF => ?_) (fun hc hF => ?_)
    · refine sxk 4 tabOK rfl ?_
      refine aops_nil ?_
      refine at_ret ?_
      refine bk_r ?_
      refine tk_r ?_
      obtain rfl := Option.some.inj hF
      refine ret_le rfl ?_
      exact (vle_refl _)
    · refine sxk 4 tabOK rfl ?_
      refine aops_nil ?_
      refine at_ret ?_
      refine bk_r ?_
      refine tk_r ?_
      obtain rfl := Option.some.inj hF
      refine ret_le rfl ?_
      exact (vle_refl _)
  · refine at_seq ?_
    refine at_region ?_
    refine sxk 2 tabOK rfl ?_
    refine aops_nil ?_
    refine ct_if hF rfl (fun hc hF => ?_) (fun hc hF => ?_)
    · refine at_seq ?_
      refine at_keep [1, 2, 3] rfl ?_
      refine at_region ?_
      refine sxk 3 tabOK rfl ?_
      refine ops_if (g := 22) hF rfl (fun hc hF => ?_) (fun hc hF => ?_)
      · refine sxk 1 tabOK rfl ?_
        obtain ⟨x5, hx5, hF⟩ := bnd_some hF
        refine call_eq (s_IsSymbol_ok text x5 hx5) rfl ((rlL_cons (rfl) rlL_nil)) rfl rfl ?_
        refine sxk 2 tabOK rfl ?_
        refine ops_ifb (g := 26) hF rfl (fun hc hF => ?_) (fun hc hF => ?_)
        · refine sxk 4 tabOK rfl ?_
          refine aops_nil ?_
          refine at_ret ?_
          refine bk_r ?_
          refine tk_r ?_
          obtain rfl := Option.some.inj hF
          refine ret_le rfl ?_
          exact (vle_refl _)
        · refine sxk 4 tabOK rfl ?_
          refine aops_nil ?_
          refine at_ret ?_
          refine bk_r ?_
          refine tk_r ?_
          obtain rfl := Option.some.inj hF
          refine ret_le rfl ?_
          exact (vle_refl _)
      · refine sxk 8 tabOK rfl ?_
        refine aops_nil ?_
        refine at_ret ?_
        refine bk_r ?_
        refine tk_r ?_
        obtain rfl := Option.some.inj hF
        refine ret_le rfl ?_
        exact (vle_refl _)
    · refine at_seq ?_
      refine at_region ?_
      refine sxk 2 tabOK rfl ?_
      refine aops_nil ?_
      refine ct_if hF rfl (fun hc hF => ?_) (fun hc hF => ?_)
      · refine at_seq ?_
        refine at_keep [1, 2, 3] rfl ?_
        refine at_region ?_
        refine sxk 1 tabOK rfl ?_
        obtain ⟨x5, hx5, hF⟩ := bnd_some hF
        refine call_eq (s_l1In_ok number (-999999999) 999999999 x5 hx5) rfl ((rlL_cons (rfl) (rlL_cons (rfl) (rlL_cons (rfl) rlL_nil)))) rfl rfl ?_
        refine sxk 1 tabOK rfl ?_
        refine ops_ifb (g := 34) hF rfl (fun hc hF => ?_) (fun hc hF => ?_)
        · refine sxk 4 tabOK rfl ?_
          refine ops_if (g := 38) hF rfl (fun hc hF => ?_) (fun hc hF => ?_)
          · refine sxk 4 tabOK rfl ?_
            refine aops_nil ?_
            refine at_ret ?_
            refine bk_r ?_
            refine tk_r ?_
            obtain rfl := Option.some.inj hF
            refine ret_le rfl ?_
            exact (vle_refl _)
          · refine sxk 4 tabOK rfl ?_
            refine aops_nil ?_
            refine at_ret ?_
            refine bk_r ?_
            refine tk_r ?_
            obtain rfl := Option.some.inj hF
            refine ret_le rfl ?_
            exact (vle_refl _)
        · refine sxk 8 tabOK rfl ?_
          refine aops_nil ?_
          refine at_ret ?_
          refine bk_r ?_
          refine tk_r ?_
          obtain rfl := Option.some.inj hF
          refine ret_le rfl ?_
          exact (vle_refl _)
      · refine at_seq ?_
        refine at_keep [1, 2, 3, 9] rfl ?_
        refine at_region ?_
        refine sxk 2 tabOK rfl ?_
        refine aops_nil ?_
        refine ct_if hF rfl (fun hc hF => ?_) (fun hc hF => ?_)
        · refine at_seq ?_
          refine at_region ?_
          refine sxk 1 tabOK rfl ?_
          obtain ⟨x5, hx5, hF⟩ := bnd_some hF
          refine call_eq (s_l1In_ok number 0 1 x5 hx5) rfl ((rlL_cons (rfl) (rlL_cons (rfl) (rlL_cons (rfl) rlL_nil)))) rfl rfl ?_
          refine sxk 1 tabOK rfl ?_
          refine ops_ifb (g := 46) hF rfl (fun hc hF => ?_) (fun hc hF => ?_)
          · refine sxk 4 tabOK rfl ?_
            refine ops_if (g := 50) hF rfl (fun hc hF => ?_) (fun hc hF => ?_)
            · refine sxk 4 tabOK rfl ?_
              refine aops_nil ?_
              refine at_ret ?_
              refine bk_r ?_
              refine tk_r ?_
              obtain rfl := Option.some.inj hF
              refine ret_le rfl ?_
              exact (vle_refl _)
            · refine sxk 4 tabOK rfl ?_
              refine aops_nil ?_
              refine at_ret ?_
              refine bk_r ?_
              refine tk_r ?_
              obtain rfl := Option.some.inj hF
              refine ret_le rfl ?_
              exact (vle_refl _)
          · refine sxk 8 tabOK rfl ?_
            refine aops_nil ?_
            refine at_ret ?_
            refine bk_r ?_
            refine tk_r ?_
            obtain rfl := Option.some.inj hF
            refine ret_le rfl ?_
            exact (vle_refl _)
        · refine at_seq ?_
          refine at_region ?_
          refine sxk 2 tabOK rfl ?_
          refine aops_nil ?_
          refine ct_if hF rfl (fun hc hF => ?_) (fun hc hF => ?_)
          · refine at_seq ?_
            refine at_region ?_
            refine sxk 3 tabOK rfl ?_
            refine ops_if (g := 58) hF rfl (fun hc hF => ?_) (fun hc hF => ?_)
            · refine sxk 1 tabOK rfl ?_
              obtain ⟨x5, hx5, hF⟩ := bnd_some hF
              refine call_eq (s_l1String_ok text x5 hx5) rfl ((rlL_cons (rfl) rlL_nil)) rfl rfl ?_
              refine sxk 2 tabOK rfl ?_
              refine ops_ifb (g := 62) hF rfl (fun hc hF => ?_) (fun hc hF => ?_)
              · refine sxk 4 tabOK rfl ?_
                refine aops_nil ?_
                refine at_ret ?_
                refine bk_r ?_
                refine tk_r ?_
                obtain rfl := Option.some.inj hF
                refine ret_le rfl ?_
                exact (vle_refl _)
              · refine sxk 4 tabOK rfl ?_
                refine aops_nil ?_
                refine at_ret ?_
                refine bk_r ?_
                refine tk_r ?_
                obtain rfl := Option.some.inj hF
                refine ret_le rfl ?_
                exact (vle_refl _)
            · refine sxk 8 tabOK rfl ?_
              refine aops_nil ?_
              refine at_ret ?_
              refine bk_r ?_
              refine tk_r ?_
              obtain rfl := Option.some.inj hF
              refine ret_le rfl ?_
              exact (vle_refl _)
          · refine at_skip ?_
            refine bk_n ?_
            refine at_seq ?_
            refine at_keep [] rfl ?_
            refine at_region ?_
            refine sxk 1 tabOK rfl ?_
            refine aops_nil ?_
            refine at_ret ?_
            obtain rfl := Option.some.inj hF
            refine ret_le rfl ?_
            exact (vle_refl _)

theorem s_l1Nodes_bok (s_l1Nodes : PDat → Option Bool) (h_s_l1Nodes : ∀ (d : PDat) (q : Bool), s_l1Nodes d = some q → FC Tryd.prog 63 [.agg (cDat.row 0 d)] [] 3 (fun x _ => x = .bool q)) (d : PDat) (q : Bool) (hF : s_l1Nodes_b s_l1Nodes d = some q) : FC Tryd.prog 63 [.agg (cDat.row 0 d)] [] 3 (fun x _ => x = .bool q) := by
  refine FC.of_le ?_
  refine fc_body tabOK Tryd.func63 rfl Tryd.ntmps63 rfl rfl rfl ?_
  unfold s_l1Nodes_b at hF
  refine at_seq ?_
  refine at_region ?_
  refine sxk 2 tabOK rfl ?_
  refine aops_nil ?_
  refine at_seq ?_
  refine at_seq ?_
  refine at_region ?_
  refine sxk 2 tabOK rfl ?_
  refine sv rfl (oc_len cDat tabOK rfl rfl rfl) rfl ?_
  refine sxk 1 tabOK rfl ?_
  refine aops_nil ?_
  refine at_block ?_
  refine cl_loop (σ := Int) (fun x3 => ⟨[(1, .ptr 3 1 0 0), (6, .psl 0 4 (d.items.map (cDat.enc 0))), (7, .int .i64 (d.items.length : Int)), (8, .int .i64 x3)], [(3, ⟨4, [cDat.row 0 d]⟩)], 4, 26, []⟩) (s_l1Nodes_L1 s_l1Nodes d) LF 0 hF (le_down (down_all (ee_cons rfl rfl (Nat.le_of_ble_eq_true rfl) (ee_cons rfl rfl (cDat.ok_psl _ rfl) (ee_cons rfl rfl rfl (ee_cons rfl rfl rfl ee_nil)))) (he_cons rfl rfl rfl (row_one (cDat.row_ok _ rfl)) he_nil) rfl rfl rfl rfl)) ?_
  rintro lk_ x3 hF
  refine at_eq (s' := ⟨[(1, .ptr 3 1 0 0), (6, .psl 0 4 (d.items.map (cDat.enc 0))), (7, .int .i64 (d.items.length : Int)), (8, .int .i64 x3)], [(3, ⟨4, [cDat.row 0 d]⟩)], 4, 26, []⟩) rfl ?_
  replace hF : s_l1Nodes_L1b s_l1Nodes d (itr (s_l1Nodes_L1 s_l1Nodes d) lk_) x3 = some q := hF
  unfold s_l1Nodes_L1b at hF
  generalize itr (s_l1Nodes_L1 s_l1Nodes d) lk_ = go4 at hF ⊢
  refine at_seq ?_
  refine at_region ?_
  refine sxk 1 tabOK rfl ?_
  refine aops_nil ?_
  refine at_seq ?_
  refine ct_if hF rfl (fun hc hF => ?_) (fun hc hF => ?_)
  · refine at_skip ?_
    refine at_seq ?_
    refine at_block ?_
    refine at_seq ?_
    refine at_region ?_
    obtain ⟨x5, hn_x5, hF⟩ := bnd_some hF
    refine sv rfl (oc_addr cDat hn_x5 tabOK rfl rfl rfl rfl) rfl ?_
    refine sxk 3 tabOK rfl ?_
    refine aops_nil ?_
    refine at_seq ?_
    refine at_region ?_
    refine sxk 1 tabOK rfl ?_
    obtain ⟨x6, hx6, hF⟩ := bnd_some hF
    refine call_eq (h_s_l1Nodes x5 x6 hx6) rfl ((rlL_cons (cDat.rl_agg (l := 0) (l' := 0) _ x5 rfl) rlL_nil)) rfl rfl ?_
    refine sxk 1 tabOK rfl ?_
    refine aops_nil ?_
    refine ct_bn hF rfl (fun hc hF => ?_) (fun hc hF => ?_)
    · refine at_seq ?_
      refine at_keep [] rfl ?_
      refine at_region ?_
      refine sxk 1 tabOK rfl ?_
      refine aops_nil ?_
      refine at_ret ?_
      refine bk_r ?_
      refine tk_r ?_
      refine ll_r ?_
      refine bk_r ?_
      refine tk_r ?_
      obtain rfl := Option.some.inj hF
      refine ret_le rfl ?_
      exact (vle_refl _)
    · refine at_skip ?_
      refine bk_n ?_
      refine at_keep [1, 6, 7, 8] rfl ?_
      refine at_region ?_
      obtain ⟨hb, hF⟩ := chk_some hF
      refine s_add tabOK rfl rfl rfl hb rfl ?_
      refine sxk 1 tabOK rfl ?_
      refine aops_nil ?_
      exact arr_loop ⟨(x3 + 1), hF, (le_down (down_all (ee_cons rfl rfl (Nat.le_of_ble_eq_true rfl) (ee_cons rfl rfl (cDat.ok_psl _ rfl) (ee_cons rfl rfl rfl (ee_cons rfl rfl rfl ee_nil)))) (he_cons rfl rfl rfl (row_one (cDat.row_ok _ rfl)) he_nil) rfl rfl rfl rfl))⟩
  · refine at_exit ?_
    refine tk_x ?_
    refine ll_x ?_
    refine bk_hit ?_
    refine at_seq ?_
    refine at_region ?_
    refine sxk 8 tabOK rfl ?_
    refine sv rfl (oc_len cDat tabOK rfl rfl rfl) rfl ?_
    obtain ⟨x5, hx5, hF⟩ := bnd_some hF
    refine call_eq (s_l1Node_ok d.kind d.number d.text (d.items.length : Int) x5 hx5) rfl ((rlL_cons (rfl) (rlL_cons (rfl) (rlL_cons (rfl) (rlL_cons (rfl) rlL_nil))))) rfl rfl ?_
    refine sxk 1 tabOK rfl ?_
    refine aops_nil ?_
    refine at_ret ?_
    obtain rfl := Option.some.inj hF
    refine ret_le rfl ?_
    exact (vle_refl _)

theorem s_l1Nodes_all (n : Nat) : (∀ (d : PDat) (q : Bool), s_l1Nodes n d = some q → FC Tryd.prog 63 [.agg (cDat.row 0 d)] [] 3 (fun x _ => x = .bool q)) := by
  induction n with
  | zero => exact fun _ q h => by cases h
  | succ n ih => exact fun d q h => s_l1Nodes_bok (s_l1Nodes n) ih d q h

theorem s_l1Nodes_ok (n : Nat) (d : PDat) (q : Bool) (hF : s_l1Nodes n d = some q) : FC Tryd.prog 63 [.agg (cDat.row 0 d)] [] 3 (fun x _ => x = .bool q) := (s_l1Nodes_all n) d q hF

theorem s_IsDatum_ok (d : PDat) (q : Bool) (hF : s_IsDatum d = some q) : FC Tryd.prog 46 [.agg (cDat.row 0 d)] [] 3 (fun x _ => x = .bool q) := by
  refine FC.of_le ?_
  refine fc_body tabOK Tryd.func46 rfl Tryd.ntmps46 rfl rfl rfl ?_
  unfold s_IsDatum at hF
  refine at_seq ?_
  refine at_region ?_
  refine sxk 2 tabOK rfl ?_
  refine aops_nil ?_
  refine at_seq ?_
  refine at_region ?_
  refine sxk 2 tabOK rfl ?_
  refine aops_nil ?_
  refine at_seq ?_
  refine at_region ?_
  refine sxk 1 tabOK rfl ?_
  obtain ⟨x2, hx2, hF⟩ := bnd_some hF
  refine call_lend1 4 (s_l1Few_ok RF d 600 x2 hx2) rfl (rnL_cons (rn_of_rl _ (cDat.rl_agg (l := 0) (l' := 0) _ d rfl)) (rnL_cons rfl rnL_nil)) rfl rfl rfl rfl rfl ?_
  refine sxk 1 tabOK rfl ?_
  refine ops_ifb (g := 6) hF rfl (fun hc hF => ?_) (fun hc hF => ?_)
  · refine sxk 1 tabOK rfl ?_
    obtain ⟨x3, hx3, hF⟩ := bnd_some hF
    refine call_eq (s_DepthOf_ok RF d x3 hx3) rfl ((rlL_cons (cDat.rl_agg (l := 0) (l' := 0) _ d rfl) rlL_nil)) rfl rfl ?_
    refine sxk 3 tabOK rfl ?_
    refine ops_if (g := 11) hF rfl (fun hc hF => ?_) (fun hc hF => ?_)
    · refine sxk 1 tabOK rfl ?_
      obtain ⟨x4, hx4, hF⟩ := bnd_some hF
      refine call_eq (s_l1Nodes_ok RF d x4 hx4) rfl ((rlL_cons (cDat.rl_agg (l := 0) (l' := 0) _ d rfl) rlL_nil)) rfl rfl ?_
      refine sxk 2 tabOK rfl ?_
      refine aops_nil ?_
      refine at_ret ?_
      obtain rfl := Option.some.inj hF
      refine ret_le rfl ?_
      exact (vle_refl _)
    · refine sxk 4 tabOK rfl ?_
      refine aops_nil ?_
      refine at_ret ?_
      obtain rfl := Option.some.inj hF
      refine ret_le rfl ?_
      exact (vle_refl _)
  · refine sxk 9 tabOK rfl ?_
    refine aops_nil ?_
    refine at_ret ?_
    obtain rfl := Option.some.inj hF
    refine ret_le rfl ?_
    exact (vle_refl _)

theorem s_EqualData_bok (s_EqualData : PDat → PDat → Option Bool) (h_s_EqualData : ∀ (a : PDat) (b : PDat) (q : Bool), s_EqualData a b = some q → FC Tryd.prog 47 [.agg (cDat.row 0 a), .agg (cDat.row 0 b)] [] 3 (fun x _ => x = .bool q)) (a : PDat) (b : PDat) (q : Bool) (hF : s_EqualData_b s_EqualData a b = some q) : FC Tryd.prog 47 [.agg (cDat.row 0 a), .agg (cDat.row 0 b)] [] 3 (fun x _ => x = .bool q) := by
  refine FC.of_le ?_
  refine fc_body tabOK Tryd.func47 rfl Tryd.ntmps47 rfl rfl rfl ?_
  unfold s_EqualData_b at hF
  refine at_seq ?_
  refine at_region ?_
  refine sxk 3 tabOK rfl ?_
  refine aops_nil ?_
  refine at_seq ?_
  refine at_seq ?_
  refine at_region ?_
  refine sxk 6 tabOK rfl ?_
  refine ops_ifn (g := 11) hF rfl (fun hc hF => ?_) (fun hc hF => ?_)
  · refine sxk 22 tabOK rfl ?_
    refine aops_nil ?_
    refine at_true rfl ?_
    refine at_seq ?_
    refine at_keep [] rfl ?_
    refine at_region ?_
    refine sxk 1 tabOK rfl ?_
    refine aops_nil ?_
    refine at_ret ?_
    refine tk_r ?_
    obtain rfl := Option.some.inj hF
    refine ret_le rfl ?_
    exact (vle_refl _)
  · refine sxk 7 tabOK rfl ?_
    refine ops_ifn (g := 18) hF rfl (fun hc hF => ?_) (fun hc hF => ?_)
    · refine sxk 15 tabOK rfl ?_
      refine aops_nil ?_
      refine at_true rfl ?_
      refine at_seq ?_
      refine at_keep [] rfl ?_
      refine at_region ?_
      refine sxk 1 tabOK rfl ?_
      refine aops_nil ?_
      refine at_ret ?_
      refine tk_r ?_
      obtain rfl := Option.some.inj hF
      refine ret_le rfl ?_
      exact (vle_refl _)
    · refine sxk 7 tabOK rfl ?_
      refine ops_ifn (g := 25) hF rfl (fun hc hF => ?_) (fun hc hF => ?_)
      · refine sxk 8 tabOK rfl ?_
        refine aops_nil ?_
        refine at_true rfl ?_
        refine at_seq ?_
        refine at_keep [] rfl ?_
        refine at_region ?_
        refine sxk 1 tabOK rfl ?_
        refine aops_nil ?_
        refine at_ret ?_
        refine tk_r ?_
        obtain rfl := Option.some.inj hF
        refine ret_le rfl ?_
        exact (vle_refl _)
      · refine sxk 2 tabOK rfl ?_
        refine sv rfl (oc_len cDat tabOK rfl rfl rfl) rfl ?_
        refine sxk 2 tabOK rfl ?_
        refine sv rfl (oc_len cDat tabOK rfl rfl rfl) rfl ?_
        refine sxk 2 tabOK rfl ?_
        refine aops_nil ?_
        refine ct_ifn hF rfl (fun hc hF => ?_) (fun hc hF => ?_)
        · refine at_seq ?_
          refine at_keep [] rfl ?_
          refine at_region ?_
          refine sxk 1 tabOK rfl ?_
          refine aops_nil ?_
          refine at_ret ?_
          refine tk_r ?_
          obtain rfl := Option.some.inj hF
          refine ret_le rfl ?_
          exact (vle_refl _)
        · refine at_skip ?_
          refine at_seq ?_
          refine at_seq ?_
          refine at_keep [2, 3] rfl ?_
          refine at_region ?_
          refine sxk 2 tabOK rfl ?_
          refine sv rfl (oc_len cDat tabOK rfl rfl rfl) rfl ?_
          refine sxk 1 tabOK rfl ?_
          refine aops_nil ?_
          refine at_block ?_
          refine cl_loop (σ := Int) (fun x4 => ⟨[(2, .ptr 3 1 0 0), (3, .ptr 4 1 0 0), (36, .int .i64 (a.items.length : Int)), (37, .int .i64 x4)], [(3, ⟨4, [cDat.row 0 a]⟩), (4, ⟨4, [cDat.row 0 b]⟩)], 5, 53, []⟩) (s_EqualData_L1 s_EqualData a b) LF 0 hF (le_down (down_all (ee_cons rfl rfl (Nat.le_of_ble_eq_true rfl) (ee_cons rfl rfl (Nat.le_of_ble_eq_true rfl) (ee_cons rfl rfl rfl (ee_cons rfl rfl rfl ee_nil)))) (he_cons rfl rfl rfl (row_one (cDat.row_ok _ rfl)) (he_cons rfl rfl rfl (row_one (cDat.row_ok _ rfl)) he_nil)) rfl rfl rfl rfl)) ?_
          rintro lk_ x4 hF
          refine at_eq (s' := ⟨[(2, .ptr 3 1 0 0), (3, .ptr 4 1 0 0), (36, .int .i64 (a.items.length : Int)), (37, .int .i64 x4)], [(3, ⟨4, [cDat.row 0 a]⟩), (4, ⟨4, [cDat.row 0 b]⟩)], 5, 53, []⟩) rfl ?_
          replace hF : s_EqualData_L1b s_EqualData a b (itr (s_EqualData_L1 s_EqualData a b) lk_) x4 = some q := hF
          unfold s_EqualData_L1b at hF
          generalize itr (s_EqualData_L1 s_EqualData a b) lk_ = go5 at hF ⊢
          refine at_seq ?_
          refine at_region ?_
          refine sxk 1 tabOK rfl ?_
          refine aops_nil ?_
          refine at_seq ?_
          refine ct_if hF rfl (fun hc hF => ?_) (fun hc hF => ?_)
          · refine at_skip ?_
            refine at_seq ?_
            refine at_block ?_
            refine at_seq ?_
            refine at_region ?_
            refine sxk 2 tabOK rfl ?_
            refine aops_nil ?_
            refine at_seq ?_
            refine at_drawnM (id := 6) 10 (by kernel_rfl) (by kernel_rfl) ?_
            refine nx tabOK rfl ?_
            refine nx tabOK rfl ?_
            refine nx tabOK rfl ?_
            obtain ⟨x6, hn_x6, hF⟩ := bnd_some hF
            refine nv rfl (oc_addr cDat hn_x6 tabOK rfl rfl rfl rfl) rfl ?_
            refine nx tabOK rfl ?_
            refine nx tabOK rfl ?_
            refine nx tabOK rfl ?_
            refine nx tabOK rfl ?_
            obtain ⟨x7, hn_x7, hF⟩ := bnd_some hF
            refine nv rfl (oc_addr cDat hn_x7 tabOK rfl rfl rfl rfl) rfl ?_
            refine nx tabOK rfl ?_
            refine dn_nil rfl ?_
            obtain ⟨x8, hx8, hF⟩ := bnd_some hF
            refine call_eq (h_s_EqualData x6 x7 x8 hx8) rfl ((rlL_cons (cDat.rl_agg (l := 0) (l' := 0) _ x6 rfl) (rlL_cons (cDat.rl_agg (l := 0) (l' := 0) _ x7 rfl) rlL_nil))) rfl rfl ?_
            refine sxk 1 tabOK rfl ?_
            refine aops_nil ?_
            refine ct_bn hF rfl (fun hc hF => ?_) (fun hc hF => ?_)
            · refine at_seq ?_
              refine at_keep [] rfl ?_
              refine at_region ?_
              refine sxk 1 tabOK rfl ?_
              refine aops_nil ?_
              refine at_ret ?_
              refine bk_r ?_
              refine tk_r ?_
              refine ll_r ?_
              refine bk_r ?_
              refine tk_r ?_
              obtain rfl := Option.some.inj hF
              refine ret_le rfl ?_
              exact (vle_refl _)
            · refine at_skip ?_
              refine bk_n ?_
              refine at_keep [2, 3, 36, 37] rfl ?_
              refine at_region ?_
              obtain ⟨hb, hF⟩ := chk_some hF
              refine s_add tabOK rfl rfl rfl hb rfl ?_
              refine sxk 1 tabOK rfl ?_
              refine aops_nil ?_
              exact arr_loop ⟨(x4 + 1), hF, (le_down (down_all (ee_cons rfl rfl (Nat.le_of_ble_eq_true rfl) (ee_cons rfl rfl (Nat.le_of_ble_eq_true rfl) (ee_cons rfl rfl rfl (ee_cons rfl rfl rfl ee_nil)))) (he_cons rfl rfl rfl (row_one (cDat.row_ok _ rfl)) (he_cons rfl rfl rfl (row_one (cDat.row_ok _ rfl)) he_nil)) rfl rfl rfl rfl))⟩
          · refine at_exit ?_
            refine tk_x ?_
            refine ll_x ?_
            refine bk_hit ?_
            refine at_seq ?_
            refine at_region ?_
            refine sxk 1 tabOK rfl ?_
            refine aops_nil ?_
            refine at_ret ?_
            obtain rfl := Option.some.inj hF
            refine ret_le rfl ?_
            exact (vle_refl _)

theorem s_EqualData_all (n : Nat) : (∀ (a : PDat) (b : PDat) (q : Bool), s_EqualData n a b = some q → FC Tryd.prog 47 [.agg (cDat.row 0 a), .agg (cDat.row 0 b)] [] 3 (fun x _ => x = .bool q)) := by
  induction n with
  | zero => exact fun _ _ q h => by cases h
  | succ n ih => exact fun a b q h => s_EqualData_bok (s_EqualData n) ih a b q h

theorem s_EqualData_ok (n : Nat) (a : PDat) (b : PDat) (q : Bool) (hF : s_EqualData n a b = some q) : FC Tryd.prog 47 [.agg (cDat.row 0 a), .agg (cDat.row 0 b)] [] 3 (fun x _ => x = .bool q) := (s_EqualData_all n) a b q hF

theorem s_l10Instr_ok (x_1 : PInstr) (q : Bool) (hF : s_l10Instr x_1 = some q) : FC Tryd.prog 29 [.agg (cInstr.row 0 x_1)] [] 3 (fun x _ => x = .bool q) := by
  refine FC.of_le ?_
  refine fc_body tabOK Tryd.func29 rfl Tryd.ntmps29 rfl rfl rfl ?_
  unfold s_l10Instr at hF
  refine at_seq ?_
  refine at_region ?_
  refine sxk 2 tabOK rfl ?_
  refine aops_nil ?_
  refine at_seq ?_
  refine at_seq ?_
  refine at_region ?_
  refine sxk 2 tabOK rfl ?_
  obtain ⟨x2, hx2, hF⟩ := bnd_some hF
  refine call_eq (s_l1In_ok x_1.op 1 20 x2 hx2) rfl ((rlL_cons (rfl) (rlL_cons (rfl) (rlL_cons (rfl) rlL_nil)))) rfl rfl ?_
  refine sxk 1 tabOK rfl ?_
  refine aops_nil ?_
  refine ct_bn hF rfl (fun hc hF => ?_) (fun hc hF => ?_)
  · refine at_seq ?_
    refine at_keep [] rfl ?_
    refine at_region ?_
    refine sxk 1 tabOK rfl ?_
    refine aops_nil ?_
    refine at_ret ?_
    refine tk_r ?_
    obtain rfl := Option.some.inj hF
    refine ret_le rfl ?_
    exact (vle_refl _)
  · refine at_skip ?_
    refine at_seq ?_
    refine at_seq ?_
    refine at_region ?_
    refine sxk 3 tabOK rfl ?_
    refine aops_nil ?_
    refine ct_if hF rfl (fun hc hF => ?_) (fun hc hF => ?_)
    · refine at_seq ?_
      refine at_keep [1] rfl ?_
      refine at_region ?_
      refine sxk 4 tabOK rfl ?_
      refine ops_if (g := 13) hF rfl (fun hc hF => ?_) (fun hc hF => ?_)
      · refine sxk 2 tabOK rfl ?_
        obtain ⟨x3, hx3, hF⟩ := bnd_some hF
        refine call_eq (s_IsDatum_ok x_1.d x3 hx3) rfl ((rlL_cons (cDat.rl_agg (l := 0) (l' := 0) _ x_1.d rfl) rlL_nil)) rfl rfl ?_
        refine sxk 2 tabOK rfl ?_
        refine aops_nil ?_
        refine at_ret ?_
        refine tk_r ?_
        obtain rfl := Option.some.inj hF
        refine ret_le rfl ?_
        exact (vle_refl _)
      · refine sxk 5 tabOK rfl ?_
        refine aops_nil ?_
        refine at_ret ?_
        refine tk_r ?_
        obtain rfl := Option.some.inj hF
        refine ret_le rfl ?_
        exact (vle_refl _)
    · refine at_skip ?_
      refine at_seq ?_
      refine at_keep [1] rfl ?_
      refine at_region ?_
      refine sxk 2 tabOK rfl ?_
      refine sv rfl (ov_build tabOK rfl rfl) rfl ?_
      refine ops_le (le_slot (y := .agg [.int .i64 0, .int .i64 0, .str ([] : List UInt8), .psl 1 4 ([].map (cDat.enc 1))]) 20 rfl (vle_agg (.cons (vle_refl _) (.cons (vle_refl _) (.cons (vle_refl _) (.cons (vle_nil _ _) .nil))))) rfl) ?_
      obtain ⟨x3, hx3, hF⟩ := bnd_some hF
      refine call_eq (s_EqualData_ok RF x_1.d (PDat.mk 0 0 ([] : List UInt8) []) x3 hx3) rfl ((rlL_cons (cDat.rl_agg (l := 0) (l' := 0) _ x_1.d rfl) (rlL_cons (rl_aggL (rlL_cons (rfl) (rlL_cons (rfl) (rlL_cons (rfl) (rlL_cons (cDat.rl_psl (l := 1) (l' := 0) _ [] rfl) rlL_nil))))) rlL_nil))) rfl rfl ?_
      refine sxk 1 tabOK rfl ?_
      refine ops_ifb (g := 22) hF rfl (fun hc hF => ?_) (fun hc hF => ?_)
      · refine sxk 2 tabOK rfl ?_
        obtain ⟨x4, hx4, hF⟩ := bnd_some hF
        refine call_eq (s_l1In_ok x_1.a 0 4000 x4 hx4) rfl ((rlL_cons (rfl) (rlL_cons (rfl) (rlL_cons (rfl) rlL_nil)))) rfl rfl ?_
        refine sxk 2 tabOK rfl ?_
        refine ops_ifb (g := 27) hF rfl (fun hc hF => ?_) (fun hc hF => ?_)
        · refine sxk 4 tabOK rfl ?_
          refine ops_if (g := 31) hF rfl (fun hc hF => ?_) (fun hc hF => ?_)
          · refine sxk 7 tabOK rfl ?_
            refine aops_nil ?_
            refine at_ret ?_
            obtain rfl := Option.some.inj hF
            refine ret_le rfl ?_
            exact (vle_refl _)
          · refine sxk 2 tabOK rfl ?_
            obtain ⟨x5, hx5, hF⟩ := bnd_some hF
            refine call_eq (s_l10Plain_ok x_1.op x5 hx5) rfl ((rlL_cons (rfl) rlL_nil)) rfl rfl ?_
            refine sxk 4 tabOK rfl ?_
            refine aops_nil ?_
            refine at_ret ?_
            obtain rfl := Option.some.inj hF
            refine ret_le rfl ?_
            exact (vle_refl _)
        · refine sxk 11 tabOK rfl ?_
          refine aops_nil ?_
          refine at_ret ?_
          obtain rfl := Option.some.inj hF
          refine ret_le rfl ?_
          exact (vle_refl _)
      · refine sxk 16 tabOK rfl ?_
        refine aops_nil ?_
        refine at_ret ?_
        obtain rfl := Option.some.inj hF
        refine ret_le rfl ?_
        exact (vle_refl _)

theorem s_FormatInstr_ok (x_1 : PInstr) (q : List UInt8) (hF : s_FormatInstr x_1 = some q) : FC Tryd.prog 16 [.agg (cInstr.row 0 x_1)] [] 3 (fun x _ => x = .str q) := by
  refine FC.of_le ?_
  refine fc_body tabOK Tryd.func16 rfl Tryd.ntmps16 rfl rfl rfl ?_
  unfold s_FormatInstr at hF
  refine at_seq ?_
  refine at_region ?_
  refine sxk 2 tabOK rfl ?_
  refine aops_nil ?_
  refine at_seq ?_
  refine at_block ?_
  refine at_seq ?_
  refine at_region ?_
  refine sxk 1 tabOK rfl ?_
  obtain ⟨x2, hx2, hF⟩ := bnd_some hF
  refine call_eq (s_l10Instr_ok x_1 x2 hx2) rfl ((rlL_cons (cInstr.rl_agg (l := 0) (l' := 0) _ x_1 rfl) rlL_nil)) rfl rfl ?_
  refine sxk 2 tabOK rfl ?_
  refine aops_nil ?_
  refine ct_bn hF rfl (fun hc hF => ?_) (fun hc hF => ?_)
  · refine at_seq ?_
    refine at_keep [] rfl ?_
    refine at_region ?_
    refine sxk 1 tabOK rfl ?_
    refine aops_nil ?_
    refine at_ret ?_
    refine bk_r ?_
    refine tk_r ?_
    obtain rfl := Option.some.inj hF
    refine ret_le rfl ?_
    exact (vle_refl _)
  · refine at_seq ?_
    refine at_region ?_
    refine sxk 4 tabOK rfl ?_
    refine aops_nil ?_
    refine ct_if hF rfl (fun hc hF => ?_) (fun hc hF => ?_)
    · refine at_seq ?_
      refine at_keep [1] rfl ?_
      refine at_drawnM (id := 4) 7 (by kernel_rfl) (by kernel_rfl) ?_
      refine nx tabOK rfl ?_
      refine nx tabOK rfl ?_
      obtain ⟨x3, hx3, hF⟩ := bnd_some hF
      refine n_call (s_OpName_ok x_1.op x3 hx3) rfl ((rlL_cons (rfl) rlL_nil)) rfl rfl ?_
      obtain ⟨hb, hF⟩ := chk_some hF
      refine nv rfl (ov_cat rfl rfl hb) rfl ?_
      refine nx tabOK rfl ?_
      refine nx tabOK rfl ?_
      obtain ⟨x4, hx4, hF⟩ := bnd_some hF
      refine n_call (s_l1Format_ok RF x_1.d x4 hx4) rfl ((rlL_cons (cDat.rl_agg (l := 0) (l' := 0) _ x_1.d rfl) rlL_nil)) rfl rfl ?_
      refine dn_nil rfl ?_
      obtain ⟨hb, hF⟩ := chk_some hF
      refine sv rfl (ov_cat rfl rfl hb) rfl ?_
      refine sxk 1 tabOK rfl ?_
      refine aops_nil ?_
      refine at_ret ?_
      refine bk_r ?_
      refine tk_r ?_
      obtain rfl := Option.some.inj hF
      refine ret_le rfl ?_
      exact (vle_refl _)
    · refine at_seq ?_
      refine at_keep [1] rfl ?_
      refine at_region ?_
      refine sxk 2 tabOK rfl ?_
      obtain ⟨x3, hx3, hF⟩ := bnd_some hF
      refine call_eq (s_l10Plain_ok x_1.op x3 hx3) rfl ((rlL_cons (rfl) rlL_nil)) rfl rfl ?_
      refine sxk 1 tabOK rfl ?_
      refine aops_nil ?_
      refine ct_b hF rfl (fun hc hF => ?_) (fun hc hF => ?_)
      · refine at_seq ?_
        refine at_region ?_
        refine sxk 2 tabOK rfl ?_
        obtain ⟨x4, hx4, hF⟩ := bnd_some hF
        refine call_eq (s_OpName_ok x_1.op x4 hx4) rfl ((rlL_cons (rfl) rlL_nil)) rfl rfl ?_
        refine sxk 1 tabOK rfl ?_
        refine aops_nil ?_
        refine at_ret ?_
        refine bk_r ?_
        refine tk_r ?_
        obtain rfl := Option.some.inj hF
        refine ret_le rfl ?_
        exact (vle_refl _)
      · refine at_skip ?_
        refine bk_n ?_
        refine at_seq ?_
        refine at_drawnM (id := 7) 7 (by kernel_rfl) (by kernel_rfl) ?_
        refine nx tabOK rfl ?_
        refine nx tabOK rfl ?_
        obtain ⟨x4, hx4, hF⟩ := bnd_some hF
        refine n_call (s_OpName_ok x_1.op x4 hx4) rfl ((rlL_cons (rfl) rlL_nil)) rfl rfl ?_
        obtain ⟨hb, hF⟩ := chk_some hF
        refine nv rfl (ov_cat rfl rfl hb) rfl ?_
        refine nx tabOK rfl ?_
        refine nx tabOK rfl ?_
        obtain ⟨x5, hx5, hF⟩ := bnd_some hF
        refine n_call (s_FormatNumber_ok x_1.a x5 hx5) rfl ((rlL_cons (rfl) rlL_nil)) rfl rfl ?_
        refine dn_nil rfl ?_
        obtain ⟨hb, hF⟩ := chk_some hF
        refine sv rfl (ov_cat rfl rfl hb) rfl ?_
        refine sxk 1 tabOK rfl ?_
        refine aops_nil ?_
        refine at_ret ?_
        obtain rfl := Option.some.inj hF
        refine ret_le rfl ?_
        exact (vle_refl _)

end Go.Proofs.YtiecdekmiabmkaaDoor
