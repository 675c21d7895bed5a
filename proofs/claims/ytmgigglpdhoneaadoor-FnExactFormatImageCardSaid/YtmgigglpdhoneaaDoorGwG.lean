/-
  Walks, made by wip/gen: G
-/
import Derived.Test.YtmgigglpdhoneaaDoorGpG
import Derived.Test.YtmgigglpdhoneaaDoorGwF
set_option linter.unusedVariables false
set_option linter.unusedSimpArgs false
namespace Go.Proofs.YtmgigglpdhoneaaDoor
open Go.Abs
attribute [local irreducible] AT AOps FC DR DN
set_option maxRecDepth 10000
set_option maxHeartbeats 4000000

theorem s_FormatNumber_ok (x_1 : Int) (q : List UInt8) (hF : s_FormatNumber x_1 = some q) : FC Tryd.prog 24 [.int .i64 x_1] [] 3 (fun x _ => x = .str q) := by
 refine FC.of_le ?_
 refine fc_body tabOK Tryd.func24 rfl Tryd.ntmps24 rfl rfl rfl ?_
 unfold s_FormatNumber at hF
 refine at_seq (at_region (sxk 1 tabOK rfl ?_))
 refine aops_nil (at_seq (at_seq (at_region (sxk 2 tabOK rfl ?_))))
 refine aops_nil (ct_if hF rfl (fun hc hF => ?_) (fun hc hF => ?_))
 ·refine at_seq (at_region (sxk 1 tabOK rfl ?_))
  refine aops_nil (at_ret (tk_r ?_))
  obtain rfl := Option.some.inj hF
  refine ret_le rfl ?_
  exact (vle_refl _)
 ·refine at_skip (at_seq (at_region (sxk 1 tabOK rfl ?_)))
  refine aops_nil (at_seq (at_seq (at_region (sxk 2 tabOK rfl ?_))))
  refine aops_nil (at_block (cl_loop (σ := List UInt8 × Int) (fun v => match v with | (out2, x3) => ⟨[(0, .int .i64 x_1), (3, .str out2), (4, .int .i64 x3)], [], 3, 31, []⟩) (s_FormatNumber_L1 x_1) LF (([] : List UInt8), x_1) hF (le_down (down_all (ee_cons rfl rfl rfl (ee_cons rfl rfl rfl (ee_cons rfl rfl rfl ee_nil))) he_nil rfl rfl rfl rfl)) ?_))
  rintro lk_ ⟨out2, x3⟩ hF
  refine at_eq (s' := ⟨[(0, .int .i64 x_1), (3, .str out2), (4, .int .i64 x3)], [], 3, 31, []⟩) rfl ?_
  replace hF : s_FormatNumber_L1b x_1 (itr (s_FormatNumber_L1 x_1) lk_) out2 x3 = some q := hF
  unfold s_FormatNumber_L1b at hF
  generalize itr (s_FormatNumber_L1 x_1) lk_ = go4 at hF ⊢
  refine at_seq (at_seq (at_region (sxk 2 tabOK rfl ?_)))
  refine aops_nil (ct_ifn hF rfl (fun hc hF => ?_) (fun hc hF => ?_))
  ·refine at_skip (at_seq (at_block (at_seq (at_region (sxk 1 tabOK rfl ?_)))))
   obtain ⟨hb, hF⟩ := chk_some hF
   refine sv rfl (oc_trem rfl rfl hb) rfl ?_
   refine sxk 1 tabOK rfl ?_
   refine aops_nil (at_seq (at_seq (at_region (sxk 2 tabOK rfl ?_))))
   refine aops_nil (cl_midn (σ := Int) (fun d5 => ⟨[(0, .int .i64 x_1), (3, .str out2), (4, .int .i64 x3), (5, .int .i64 d5)], [], 3, 31, []⟩) (fun d5 => s_FormatNumber_J2 out2 x3 go4 d5 = some q) ?_ ?_)
   ·refine ct_if hF rfl (fun hc hF => ?_) (fun hc hF => ?_)
    ·refine at_region (sxk 1 tabOK rfl ?_)
     obtain ⟨hb, hF⟩ := chk_some hF
     refine sv rfl (oc_neg rfl tabOK hb) rfl ?_
     refine sxk 1 tabOK rfl ?_
     exact aops_nil (arr_cut ⟨(-(Int.tmod x3 10)), hF, (le_down (down_all (ee_cons rfl rfl rfl (ee_cons rfl rfl rfl (ee_cons rfl rfl rfl (ee_cons rfl rfl rfl ee_nil)))) he_nil rfl rfl rfl rfl))⟩)
    ·exact at_skip (arr_cut ⟨(Int.tmod x3 10), hF, (le_down (down_all (ee_cons rfl rfl rfl (ee_cons rfl rfl rfl (ee_cons rfl rfl rfl (ee_cons rfl rfl rfl ee_nil)))) he_nil rfl rfl rfl rfl))⟩)
   ·rintro d5 hF
    refine at_eq (s' := ⟨[(0, .int .i64 x_1), (3, .str out2), (4, .int .i64 x3), (5, .int .i64 d5)], [], 3, 31, []⟩) rfl ?_
    replace hF : s_FormatNumber_J2 out2 x3 go4 d5 = some q := hF
    unfold s_FormatNumber_J2 at hF
    refine at_region (sxk 1 tabOK rfl ?_)
    obtain ⟨hb, hF⟩ := chk_some hF
    refine s_add tabOK rfl rfl rfl hb rfl ?_
    obtain ⟨hb, hF⟩ := chk_some hF
    refine sv rfl (ov_toByte hb tabOK rfl rfl rfl) rfl ?_
    refine sc_slit cByte (l := 0) ([(UInt8.ofNat (48 + d5).toNat)] : List UInt8) tabOK rfl rfl rfl rfl rfl rfl rfl ?_
    refine sv rfl (ov_bytesH tabOK rfl rfl rfl rfl) rfl ?_
    refine sxk 1 tabOK rfl ?_
    obtain ⟨hb, hF⟩ := chk_some hF
    refine sv rfl (ov_cat rfl rfl hb) rfl ?_
    refine sxk 1 tabOK rfl ?_
    refine aops_nil (bk_n (at_keep [0, 3, 4] rfl ?_))
    refine at_region (sxk 1 tabOK rfl ?_)
    obtain ⟨hb, hF⟩ := chk_some hF
    refine sv rfl (oc_tquo rfl rfl hb) rfl ?_
    refine sxk 1 tabOK rfl ?_
    exact aops_nil (arr_loop ⟨((([(UInt8.ofNat (48 + d5).toNat)] : List UInt8) ++ out2), (Int.tdiv x3 10)), hF, (le_down (down_all (ee_cons rfl rfl rfl (ee_cons rfl rfl rfl (ee_cons rfl rfl rfl ee_nil))) he_nil rfl rfl rfl rfl))⟩)
  ·refine at_exit (tk_x (ll_x (bk_hit (at_seq (at_seq (at_region (sxk 2 tabOK rfl ?_)))))))
   refine aops_nil (ct_if hF rfl (fun hc hF => ?_) (fun hc hF => ?_))
   ·refine at_region (sxk 1 tabOK rfl ?_)
    obtain ⟨hb, hF⟩ := chk_some hF
    refine sv rfl (ov_cat rfl rfl hb) rfl ?_
    refine sxk 1 tabOK rfl ?_
    refine aops_nil (at_seq (at_keep [3] rfl ?_))
    refine at_region (sxk 2 tabOK rfl ?_)
    refine aops_nil (at_ret ?_)
    obtain rfl := Option.some.inj hF
    refine ret_le rfl ?_
    exact (vle_refl _)
   ·refine at_skip (at_seq (at_region (sxk 2 tabOK rfl ?_)))
    refine aops_nil (at_ret ?_)
    obtain rfl := Option.some.inj hF
    refine ret_le rfl ?_
    exact (vle_refl _)

theorem s_l1Join_ok (list : List (List UInt8)) (x_1 : List UInt8) (q : List UInt8) (hF : s_l1Join list x_1 = some q) : FC Tryd.prog 58 [.psl 0 1 (list.map (cStr.enc 0)), .str x_1] [] 3 (fun x _ => x = .str q) := by
 refine FC.of_le ?_
 refine fc_body tabOK Tryd.func58 rfl Tryd.ntmps58 rfl rfl rfl ?_
 unfold s_l1Join at hF
 refine at_seq (at_region (sxk 1 tabOK rfl ?_))
 refine aops_nil (at_seq (at_region (sxk 1 tabOK rfl ?_)))
 refine aops_nil (at_seq (at_seq (at_region (sxk 1 tabOK rfl ?_))))
 refine sv rfl (oc_len cStr tabOK rfl rfl rfl) rfl ?_
 refine sxk 1 tabOK rfl ?_
 refine aops_nil (at_block (cl_loop (σ := List UInt8 × Int) (fun v => match v with | (out3, x4) => ⟨[(1, .str x_1), (5, .str out3), (8, .psl 0 1 (list.map (cStr.enc 0))), (9, .int .i64 (list.length : Int)), (10, .int .i64 x4)], [], 3, 25, []⟩) (s_l1Join_L1 list x_1) LF (([] : List UInt8), 0) hF (le_down (down_all (ee_cons rfl rfl rfl (ee_cons rfl rfl rfl (ee_cons rfl rfl (cStr.ok_psl _ rfl) (ee_cons rfl rfl rfl (ee_cons rfl rfl rfl ee_nil))))) he_nil rfl rfl rfl rfl)) ?_))
 rintro lk_ ⟨out3, x4⟩ hF
 refine at_eq (s' := ⟨[(1, .str x_1), (5, .str out3), (8, .psl 0 1 (list.map (cStr.enc 0))), (9, .int .i64 (list.length : Int)), (10, .int .i64 x4)], [], 3, 25, []⟩) rfl ?_
 replace hF : s_l1Join_L1b list x_1 (itr (s_l1Join_L1 list x_1) lk_) out3 x4 = some q := hF
 unfold s_l1Join_L1b at hF
 generalize itr (s_l1Join_L1 list x_1) lk_ = go5 at hF ⊢
 refine at_seq (at_region (sxk 1 tabOK rfl ?_))
 refine aops_nil (at_seq (ct_if hF rfl (fun hc hF => ?_) (fun hc hF => ?_)))
 ·refine at_skip (at_seq (at_block (at_seq (at_region (sxk 1 tabOK rfl ?_)))))
  obtain ⟨x6, hn_x6, hF⟩ := bnd_some hF
  refine sv rfl (oc_addr cStr hn_x6 tabOK rfl rfl rfl rfl) rfl ?_
  refine sxk 3 tabOK rfl ?_
  refine aops_nil (at_seq (at_seq (at_region (sxk 2 tabOK rfl ?_))))
  refine aops_nil (cl_midn (σ := List UInt8) (fun out7 => ⟨[(1, .str x_1), (5, .str out7), (7, .str x6), (8, .psl 0 1 (list.map (cStr.enc 0))), (9, .int .i64 (list.length : Int)), (10, .int .i64 x4)], [], 3, 25, []⟩) (fun out7 => s_l1Join_J2 x4 go5 x6 out7 = some q) ?_ ?_)
  ·refine ct_if hF rfl (fun hc hF => ?_) (fun hc hF => ?_)
   ·refine at_keep [1, 5, 7, 8, 9, 10] rfl ?_
    refine at_region (sxk 2 tabOK rfl ?_)
    obtain ⟨hb, hF⟩ := chk_some hF
    refine sv rfl (ov_cat rfl rfl hb) rfl ?_
    refine sxk 1 tabOK rfl ?_
    exact aops_nil (arr_cut ⟨(out3 ++ x_1), hF, (le_down (down_all (ee_cons rfl rfl rfl (ee_cons rfl rfl rfl (ee_cons rfl rfl rfl (ee_cons rfl rfl (cStr.ok_psl _ rfl) (ee_cons rfl rfl rfl (ee_cons rfl rfl rfl ee_nil)))))) he_nil rfl rfl rfl rfl))⟩)
   ·exact at_skip (arr_cut ⟨out3, hF, (le_down (down_all (ee_cons rfl rfl rfl (ee_cons rfl rfl rfl (ee_cons rfl rfl rfl (ee_cons rfl rfl (cStr.ok_psl _ rfl) (ee_cons rfl rfl rfl (ee_cons rfl rfl rfl ee_nil)))))) he_nil rfl rfl rfl rfl))⟩)
  ·rintro out7 hF
   refine at_eq (s' := ⟨[(1, .str x_1), (5, .str out7), (7, .str x6), (8, .psl 0 1 (list.map (cStr.enc 0))), (9, .int .i64 (list.length : Int)), (10, .int .i64 x4)], [], 3, 25, []⟩) rfl ?_
   replace hF : s_l1Join_J2 x4 go5 x6 out7 = some q := hF
   unfold s_l1Join_J2 at hF
   refine at_region (sxk 2 tabOK rfl ?_)
   obtain ⟨hb, hF⟩ := chk_some hF
   refine sv rfl (ov_cat rfl rfl hb) rfl ?_
   refine sxk 1 tabOK rfl ?_
   refine aops_nil (bk_n (at_region ?_))
   obtain ⟨hb, hF⟩ := chk_some hF
   refine s_add tabOK rfl rfl rfl hb rfl ?_
   refine sxk 1 tabOK rfl ?_
   exact aops_nil (arr_loop ⟨((out7 ++ x6), (x4 + 1)), hF, (le_down (down_all (ee_cons rfl rfl rfl (ee_cons rfl rfl rfl (ee_cons rfl rfl (cStr.ok_psl _ rfl) (ee_cons rfl rfl rfl (ee_cons rfl rfl rfl ee_nil))))) he_nil rfl rfl rfl rfl))⟩)
 ·refine at_exit (tk_x (ll_x (bk_hit (at_seq (at_region (sxk 2 tabOK rfl ?_))))))
  refine aops_nil (at_ret ?_)
  obtain rfl := Option.some.inj hF
  refine ret_le rfl ?_
  exact (vle_refl _)

theorem s_l1Format_bok (s_l1Format : PDat → Option (List UInt8)) (h_s_l1Format : ∀ (d : PDat) (q : List UInt8), s_l1Format d = some q → FC Tryd.prog 41 [.agg (cDat.row 0 d)] [] 3 (fun x _ => x = .str q)) (d : PDat) (q : List UInt8) (hF : s_l1Format_b s_l1Format d = some q) : FC Tryd.prog 41 [.agg (cDat.row 0 d)] [] 3 (fun x _ => x = .str q) := by
 refine FC.of_le ?_
 refine fc_body tabOK Tryd.func41 rfl Tryd.ntmps41 rfl rfl rfl ?_
 unfold s_l1Format_b at hF
 refine at_seq (at_region (sxk 2 tabOK rfl ?_))
 refine aops_nil (at_seq (at_seq (at_region (sxk 2 tabOK rfl ?_))))
 refine aops_nil (at_block (at_seq (at_region (sxk 2 tabOK rfl ?_))))
 refine aops_nil (ct_if hF rfl (fun hc hF => ?_) (fun hc hF => ?_))
 ·refine at_seq (at_region (sxk 3 tabOK rfl ?_))
  refine aops_nil (at_ret (bk_r (tk_r ?_)))
  obtain rfl := Option.some.inj hF
  refine ret_le rfl ?_
  exact (vle_refl _)
 ·refine at_seq (at_region (sxk 2 tabOK rfl ?_))
  refine aops_nil (ct_if hF rfl (fun hc hF => ?_) (fun hc hF => ?_))
  ·refine at_seq (at_keep [1] rfl ?_)
   refine at_region (sxk 2 tabOK rfl ?_)
   obtain ⟨x3, hx3, hF⟩ := bnd_some hF
   refine call_eq (s_FormatNumber_ok d.number x3 hx3) rfl ((rlL_cons (rfl) rlL_nil)) rfl rfl ?_
   refine sxk 1 tabOK rfl ?_
   refine aops_nil (at_ret (bk_r (tk_r ?_)))
   obtain rfl := Option.some.inj hF
   refine ret_le rfl ?_
   exact (vle_refl _)
  ·refine at_seq (at_keep [1, 7] rfl ?_)
   refine at_region (sxk 2 tabOK rfl ?_)
   refine aops_nil (ct_if hF rfl (fun hc hF => ?_) (fun hc hF => ?_))
   ·refine at_seq (at_region (sc_slit cStr (l := 0) ([([35, 102] : List UInt8), ([35, 116] : List UInt8)] : List (List UInt8)) tabOK rfl rfl rfl rfl rfl rfl rfl ?_))
    refine sxk 2 tabOK rfl ?_
    obtain ⟨x3, hn_x3, hF⟩ := bnd_some hF
    refine sv rfl (oc_haddr cStr hn_x3 tabOK rfl rfl rfl rfl) rfl ?_
    refine sv rfl (oc_load cStr hn_x3 tabOK rfl rfl rfl rfl) rfl ?_
    refine sxk 1 tabOK rfl ?_
    refine aops_nil (at_ret (bk_r (tk_r ?_)))
    obtain rfl := Option.some.inj hF
    refine ret_le rfl ?_
    exact (vle_refl _)
   ·refine at_seq (at_region (sxk 2 tabOK rfl ?_))
    refine aops_nil (ct_if hF rfl (fun hc hF => ?_) (fun hc hF => ?_))
    ·refine at_seq (at_region (sxk 2 tabOK rfl ?_))
     obtain ⟨hb, hF⟩ := chk_some hF
     refine sv rfl (ov_cat rfl rfl hb) rfl ?_
     obtain ⟨hb, hF⟩ := chk_some hF
     refine sv rfl (ov_cat rfl rfl hb) rfl ?_
     refine sxk 1 tabOK rfl ?_
     refine aops_nil (at_ret (bk_r (tk_r ?_)))
     obtain rfl := Option.some.inj hF
     refine ret_le rfl ?_
     exact (vle_refl _)
    ·refine at_skip (bk_n (at_seq (at_region (sc_slit cStr (l := 0) ([] : List (List UInt8)) tabOK rfl rfl rfl rfl rfl rfl rfl ?_))))
     refine sxk 1 tabOK rfl ?_
     refine aops_nil (at_seq (at_seq (at_region (sxk 2 tabOK rfl ?_))))
     refine sv rfl (oc_len cDat tabOK rfl rfl rfl) rfl ?_
     refine sxk 1 tabOK rfl ?_
     refine aops_nil (at_block (cl_loop (σ := Int × List (List UInt8)) (fun v => match v with | (x3, parts4) => ⟨[(3, .hsl 4 0 parts4.length), (32, .psl 0 4 (d.items.map (cDat.enc 0))), (33, .int .i64 (d.items.length : Int)), (34, .int .i64 x3)], [(4, ⟨1, parts4.map (cStr.enc 0)⟩)], 5, 48, []⟩) (s_l1Format_L1 s_l1Format d) LF (0, ([] : List (List UInt8))) hF (le_down (down_all (ee_cons rfl rfl (Nat.le_of_ble_eq_true rfl) (ee_cons rfl rfl (cDat.ok_psl _ rfl) (ee_cons rfl rfl rfl (ee_cons rfl rfl rfl ee_nil)))) (he_cons rfl rfl rfl (cStr.rows_ok _ rfl) he_nil) rfl rfl rfl rfl)) ?_))
     rintro lk_ ⟨x3, parts4⟩ hF
     refine at_eq (s' := ⟨[(3, .hsl 4 0 parts4.length), (32, .psl 0 4 (d.items.map (cDat.enc 0))), (33, .int .i64 (d.items.length : Int)), (34, .int .i64 x3)], [(4, ⟨1, parts4.map (cStr.enc 0)⟩)], 5, 48, []⟩) rfl ?_
     replace hF : s_l1Format_L1b s_l1Format d (itr (s_l1Format_L1 s_l1Format d) lk_) x3 parts4 = some q := hF
     unfold s_l1Format_L1b at hF
     generalize itr (s_l1Format_L1 s_l1Format d) lk_ = go5 at hF ⊢
     refine at_seq (at_region (sxk 1 tabOK rfl ?_))
     refine aops_nil (at_seq (ct_if hF rfl (fun hc hF => ?_) (fun hc hF => ?_)))
     ·refine at_skip (at_seq (at_block (at_seq (at_region ?_))))
      obtain ⟨x6, hn_x6, hF⟩ := bnd_some hF
      refine sv rfl (oc_addr cDat hn_x6 tabOK rfl rfl rfl rfl) rfl ?_
      refine sxk 3 tabOK rfl ?_
      refine aops_nil (at_region (sxk 2 tabOK rfl ?_))
      obtain ⟨x7, hx7, hF⟩ := bnd_some hF
      refine call_eq (h_s_l1Format x6 x7 hx7) rfl ((rlL_cons (cDat.rl_agg (l := 0) (l' := 0) _ x6 rfl) rlL_nil)) rfl rfl ?_
      refine sc_slit cStr (l := 0) ([x7] : List (List UInt8)) tabOK rfl rfl rfl rfl rfl rfl rfl ?_
      obtain ⟨hb, hF⟩ := chk_some hF
      refine sc_append cStr (l := 0) (xs := parts4) (ys := ([x7] : List (List UInt8))) hb rfl tabOK rfl rfl rfl rfl rfl rfl rfl (srcC_hsl cStr rfl rfl rfl) rfl ?_
      refine sxk 1 tabOK rfl ?_
      refine aops_nil (bk_n (at_keep [3, 32, 33, 34] rfl ?_))
      refine at_region ?_
      obtain ⟨hb, hF⟩ := chk_some hF
      refine s_add tabOK rfl rfl rfl hb rfl ?_
      refine sxk 1 tabOK rfl ?_
      exact aops_nil (arr_loop ⟨((x3 + 1), (parts4 ++ ([x7] : List (List UInt8)))), hF, (le_down (down_all (ee_cons rfl rfl (Nat.le_of_ble_eq_true rfl) (ee_cons rfl rfl (cDat.ok_psl _ rfl) (ee_cons rfl rfl rfl (ee_cons rfl rfl rfl ee_nil)))) (he_cons rfl rfl rfl (cStr.rows_ok _ rfl) he_nil) rfl rfl rfl rfl))⟩)
     ·refine at_exit (tk_x (ll_x (bk_hit (at_seq (at_region (sxk 1 tabOK rfl ?_))))))
      obtain ⟨x6, hx6, hF⟩ := bnd_some hF
      refine call_rdx (s_l1Join_ok parts4 ([32] : List UInt8) x6 hx6) rfl (rdL_cons (rd_hslF rfl (by simp) (cStr.rlR _ 0 _)) (rdL_cons (rd_rl (rfl)) rdL_nil)) rfl rfl ?_
      obtain ⟨hb, hF⟩ := chk_some hF
      refine sv rfl (ov_cat rfl rfl hb) rfl ?_
      obtain ⟨hb, hF⟩ := chk_some hF
      refine sv rfl (ov_cat rfl rfl hb) rfl ?_
      refine sxk 1 tabOK rfl ?_
      refine aops_nil (at_ret ?_)
      obtain rfl := Option.some.inj hF
      refine ret_le rfl ?_
      exact (vle_refl _)

theorem s_l1Format_all (n : Nat) : (∀ (d : PDat) (q : List UInt8), s_l1Format n d = some q → FC Tryd.prog 41 [.agg (cDat.row 0 d)] [] 3 (fun x _ => x = .str q)) := by
 induction n with
 | zero => exact fun _ q h => by cases h
 | succ n ih => exact fun d q h => s_l1Format_bok (s_l1Format n) ih d q h

theorem s_l1Format_ok (n : Nat) (d : PDat) (q : List UInt8) (hF : s_l1Format n d = some q) : FC Tryd.prog 41 [.agg (cDat.row 0 d)] [] 3 (fun x _ => x = .str q) := (s_l1Format_all n) d q hF

theorem s_l1In_ok (x_1 : Int) (a : Int) (b : Int) (q : Bool) (hF : s_l1In x_1 a b = some q) : FC Tryd.prog 35 [.int .i64 x_1, .int .i64 a, .int .i64 b] [] 3 (fun x _ => x = .bool q) := by
 refine FC.of_le ?_
 refine fc_body tabOK Tryd.func35 rfl Tryd.ntmps35 rfl rfl rfl ?_
 unfold s_l1In at hF
 refine at_seq (at_region (sxk 1 tabOK rfl ?_))
 refine aops_nil (at_seq (at_region (sxk 4 tabOK rfl ?_)))
 refine ops_if (g := 10) hF rfl (fun hc hF => ?_) (fun hc hF => ?_)
 ·refine sxk 5 tabOK rfl ?_
  refine aops_nil (at_ret ?_)
  obtain rfl := Option.some.inj hF
  refine ret_le rfl ?_
  exact (vle_refl _)
 ·refine sxk 5 tabOK rfl ?_
  refine aops_nil (at_ret ?_)
  obtain rfl := Option.some.inj hF
  refine ret_le rfl ?_
  exact (vle_refl _)

theorem s_l10Plain_ok (op : Int) (q : Bool) (hF : s_l10Plain op = some q) : FC Tryd.prog 42 [.int .i64 op] [] 3 (fun x _ => x = .bool q) := by
 refine FC.of_le ?_
 refine fc_body tabOK Tryd.func42 rfl Tryd.ntmps42 rfl rfl rfl ?_
 unfold s_l10Plain at hF
 refine at_seq (at_region (sxk 1 tabOK rfl ?_))
 refine aops_nil (at_seq (at_region (sxk 3 tabOK rfl ?_)))
 refine ops_if (g := 5) hF rfl (fun hc hF => ?_) (fun hc hF => ?_)
 ·refine sxk 4 tabOK rfl ?_
  refine aops_nil (at_ret ?_)
  obtain rfl := Option.some.inj hF
  refine ret_le rfl ?_
  exact (vle_refl _)
 ·refine sxk 4 tabOK rfl ?_
  refine aops_nil (at_ret ?_)
  obtain rfl := Option.some.inj hF
  refine ret_le rfl ?_
  exact (vle_refl _)

theorem s_l1Few_bok (s_l1Few : PDat → Int → Option (Bool × Int)) (h_s_l1Few : ∀ (d : PDat) (left : Int) (q : Bool × Int), s_l1Few d left = some q → FC Tryd.prog 68 [.agg (cDat.row 0 d), .ptr 0 1 0 0] [(0, ⟨1, [cInt.row 1 left]⟩)] 3 (fun x h2 => x = .bool q.1 ∧ hget h2 0 = some ⟨1, [cInt.row 1 q.2]⟩)) (d : PDat) (left : Int) (q : Bool × Int) (hF : s_l1Few_b s_l1Few d left = some q) : FC Tryd.prog 68 [.agg (cDat.row 0 d), .ptr 0 1 0 0] [(0, ⟨1, [cInt.row 1 left]⟩)] 3 (fun x h2 => x = .bool q.1 ∧ hget h2 0 = some ⟨1, [cInt.row 1 q.2]⟩) := by
 refine FC.of_le_lent ?_
 refine fc_body tabOK Tryd.func68 rfl Tryd.ntmps68 rfl rfl rfl ?_
 unfold s_l1Few_b at hF
 refine at_seq (at_region (sxk 2 tabOK rfl ?_))
 refine aops_nil (at_seq (at_region (sxk 4 tabOK rfl ?_)))
 obtain ⟨hb, hF⟩ := chk_some hF
 refine s_sub tabOK rfl rfl rfl hb rfl ?_
 refine sxk 2 tabOK rfl ?_
 refine aops_nil (at_seq (at_seq (at_keep [1, 2] rfl ?_)))
 refine at_region (sxk 1 tabOK rfl ?_)
 refine aops_nil (at_block (cl_loop (σ := Int × Int) (fun v => match v with | (i4, left5) => ⟨[(1, .ptr 0 1 0 0), (2, .ptr 3 1 0 0), (5, .int .i64 i4)], [(0, ⟨1, [[.int .i64 left5]]⟩), (3, ⟨4, [cDat.row 0 d]⟩)], 4, 36, []⟩) (s_l1Few_L1 s_l1Few d) LF (0, (left - 1)) hF (le_down (down_all (ee_cons rfl rfl (Nat.le_of_ble_eq_true rfl) (ee_cons rfl rfl (Nat.le_of_ble_eq_true rfl) (ee_cons rfl rfl rfl ee_nil))) (he_cons rfl rfl rfl (row_one ⟨rfl, trivial⟩) (he_cons rfl rfl rfl (row_one (cDat.row_ok _ rfl)) he_nil)) rfl rfl rfl rfl)) ?_))
 rintro lk_ ⟨i4, left5⟩ hF
 refine at_eq (s' := ⟨[(1, .ptr 0 1 0 0), (2, .ptr 3 1 0 0), (5, .int .i64 i4)], [(0, ⟨1, [[.int .i64 left5]]⟩), (3, ⟨4, [cDat.row 0 d]⟩)], 4, 36, []⟩) rfl ?_
 replace hF : s_l1Few_L1b s_l1Few d (itr (s_l1Few_L1 s_l1Few d) lk_) i4 left5 = some q := hF
 unfold s_l1Few_L1b at hF
 generalize itr (s_l1Few_L1 s_l1Few d) lk_ = go6 at hF ⊢
 refine at_seq (at_seq (cl_midn (σ := Bool) (fun x7 => ⟨[(1, .ptr 0 1 0 0), (2, .ptr 3 1 0 0), (5, .int .i64 i4), (22, .bool x7)], [(0, ⟨1, [[.int .i64 left5]]⟩), (3, ⟨4, [cDat.row 0 d]⟩)], 4, 36, []⟩) (fun x7 => s_l1Few_J2 s_l1Few d i4 left5 go6 x7 = some q) ?_ ?_))
 ·refine at_region (sxk 3 tabOK rfl ?_)
  refine sv rfl (oc_len cDat tabOK rfl rfl rfl) rfl ?_
  refine sxk 2 tabOK rfl ?_
  refine ops_if (g := 17) hF rfl (fun hc hF => ?_) (fun hc hF => ?_)
  ·refine sxk 5 tabOK rfl ?_
   exact aops_nil (arr_cut ⟨(decide (left5 ≥ 0)), hF, (le_down (down_all (ee_cons rfl rfl (Nat.le_of_ble_eq_true rfl) (ee_cons rfl rfl (Nat.le_of_ble_eq_true rfl) (ee_cons rfl rfl rfl (ee_cons rfl rfl rfl ee_nil)))) (he_cons rfl rfl rfl (row_one ⟨rfl, trivial⟩) (he_cons rfl rfl rfl (row_one (cDat.row_ok _ rfl)) he_nil)) rfl rfl rfl rfl))⟩)
  ·refine sxk 5 tabOK rfl ?_
   exact aops_nil (arr_cut ⟨false, hF, (le_down (down_all (ee_cons rfl rfl (Nat.le_of_ble_eq_true rfl) (ee_cons rfl rfl (Nat.le_of_ble_eq_true rfl) (ee_cons rfl rfl rfl (ee_cons rfl rfl rfl ee_nil)))) (he_cons rfl rfl rfl (row_one ⟨rfl, trivial⟩) (he_cons rfl rfl rfl (row_one (cDat.row_ok _ rfl)) he_nil)) rfl rfl rfl rfl))⟩)
 ·rintro x7 hF
  refine at_eq (s' := ⟨[(1, .ptr 0 1 0 0), (2, .ptr 3 1 0 0), (5, .int .i64 i4), (22, .bool x7)], [(0, ⟨1, [[.int .i64 left5]]⟩), (3, ⟨4, [cDat.row 0 d]⟩)], 4, 36, []⟩) rfl ?_
  replace hF : s_l1Few_J2 s_l1Few d i4 left5 go6 x7 = some q := hF
  unfold s_l1Few_J2 at hF
  refine ct_b hF rfl (fun hc hF => ?_) (fun hc hF => ?_)
  ·refine at_skip (at_seq (at_block (at_region (sxk 3 tabOK rfl ?_))))
   obtain ⟨x8, hn_x8, hF⟩ := bnd_some hF
   refine sv rfl (oc_addr cDat hn_x8 tabOK rfl rfl rfl rfl) rfl ?_
   refine sxk 2 tabOK rfl ?_
   obtain ⟨x9, hx9, hF⟩ := bnd_some hF
   refine call_lend1 0 (h_s_l1Few x8 left5 x9 hx9) rfl (rnL_cons (rn_of_rl _ (cDat.rl_agg (l := 0) (l' := 0) _ x8 rfl)) (rnL_cons rfl rnL_nil)) rfl rfl rfl rfl rfl ?_
   refine aops_nil (bk_n (at_keep [1, 2, 5] rfl ?_))
   refine at_region (sxk 1 tabOK rfl ?_)
   obtain ⟨hb, hF⟩ := chk_some hF
   refine s_add tabOK rfl rfl rfl hb rfl ?_
   refine sxk 1 tabOK rfl ?_
   exact aops_nil (arr_loop ⟨((i4 + 1), x9.2), hF, (le_down (down_all (ee_cons rfl rfl (Nat.le_of_ble_eq_true rfl) (ee_cons rfl rfl (Nat.le_of_ble_eq_true rfl) (ee_cons rfl rfl rfl ee_nil))) (he_cons rfl rfl rfl (row_one ⟨rfl, trivial⟩) (he_cons rfl rfl rfl (row_one (cDat.row_ok _ rfl)) he_nil)) rfl rfl rfl rfl))⟩)
  ·refine at_exit (tk_x (ll_x (bk_hit (at_seq (at_region (sxk 5 tabOK rfl ?_))))))
   refine aops_nil (at_ret ?_)
   obtain rfl := Option.some.inj hF
   exact ret_lent rfl ((vle_refl _)) rfl

theorem s_l1Few_all (n : Nat) : (∀ (d : PDat) (left : Int) (q : Bool × Int), s_l1Few n d left = some q → FC Tryd.prog 68 [.agg (cDat.row 0 d), .ptr 0 1 0 0] [(0, ⟨1, [cInt.row 1 left]⟩)] 3 (fun x h2 => x = .bool q.1 ∧ hget h2 0 = some ⟨1, [cInt.row 1 q.2]⟩)) := by
 induction n with
 | zero => exact fun _ _ q h => by cases h
 | succ n ih => exact fun d left q h => s_l1Few_bok (s_l1Few n) ih d left q h

theorem s_l1Few_ok (n : Nat) (d : PDat) (left : Int) (q : Bool × Int) (hF : s_l1Few n d left = some q) : FC Tryd.prog 68 [.agg (cDat.row 0 d), .ptr 0 1 0 0] [(0, ⟨1, [cInt.row 1 left]⟩)] 3 (fun x h2 => x = .bool q.1 ∧ hget h2 0 = some ⟨1, [cInt.row 1 q.2]⟩) := (s_l1Few_all n) d left q hF

theorem s_DepthOf_bok (s_DepthOf : PDat → Option Int) (h_s_DepthOf : ∀ (d : PDat) (q : Int), s_DepthOf d = some q → FC Tryd.prog 69 [.agg (cDat.row 0 d)] [] 3 (fun x _ => x = .int .i64 q)) (d : PDat) (q : Int) (hF : s_DepthOf_b s_DepthOf d = some q) : FC Tryd.prog 69 [.agg (cDat.row 0 d)] [] 3 (fun x _ => x = .int .i64 q) := by
 refine FC.of_le ?_
 refine fc_body tabOK Tryd.func69 rfl Tryd.ntmps69 rfl rfl rfl ?_
 unfold s_DepthOf_b at hF
 refine at_seq (at_region (sxk 2 tabOK rfl ?_))
 refine aops_nil (at_seq (at_region (sxk 1 tabOK rfl ?_)))
 refine aops_nil (at_seq (at_seq (at_region (sxk 2 tabOK rfl ?_))))
 refine sv rfl (oc_len cDat tabOK rfl rfl rfl) rfl ?_
 refine sxk 1 tabOK rfl ?_
 refine aops_nil (at_block (cl_loop (σ := Int × Int) (fun v => match v with | (x3, x4) => ⟨[(3, .int .i64 x3), (7, .psl 0 4 (d.items.map (cDat.enc 0))), (8, .int .i64 (d.items.length : Int)), (9, .int .i64 x4)], [], 4, 20, []⟩) (s_DepthOf_L1 s_DepthOf d) LF (0, 0) hF (le_down (down_all (ee_cons rfl rfl rfl (ee_cons rfl rfl (cDat.ok_psl _ rfl) (ee_cons rfl rfl rfl (ee_cons rfl rfl rfl ee_nil)))) he_nil rfl rfl rfl rfl)) ?_))
 rintro lk_ ⟨x3, x4⟩ hF
 refine at_eq (s' := ⟨[(3, .int .i64 x3), (7, .psl 0 4 (d.items.map (cDat.enc 0))), (8, .int .i64 (d.items.length : Int)), (9, .int .i64 x4)], [], 4, 20, []⟩) rfl ?_
 replace hF : s_DepthOf_L1b s_DepthOf d (itr (s_DepthOf_L1 s_DepthOf d) lk_) x3 x4 = some q := hF
 unfold s_DepthOf_L1b at hF
 generalize itr (s_DepthOf_L1 s_DepthOf d) lk_ = go5 at hF ⊢
 refine at_seq (at_region (sxk 1 tabOK rfl ?_))
 refine aops_nil (at_seq (ct_if hF rfl (fun hc hF => ?_) (fun hc hF => ?_)))
 ·refine at_skip (at_seq (at_block (at_seq (at_region ?_))))
  obtain ⟨x6, hn_x6, hF⟩ := bnd_some hF
  refine sv rfl (oc_addr cDat hn_x6 tabOK rfl rfl rfl rfl) rfl ?_
  refine sxk 3 tabOK rfl ?_
  refine aops_nil (at_region (sxk 2 tabOK rfl ?_))
  obtain ⟨x7, hx7, hF⟩ := bnd_some hF
  refine call_eq (h_s_DepthOf x6 x7 hx7) rfl ((rlL_cons (cDat.rl_agg (l := 0) (l' := 0) _ x6 rfl) rlL_nil)) rfl rfl ?_
  refine sv rfl (ov_max rfl rfl) rfl ?_
  refine sxk 1 tabOK rfl ?_
  refine aops_nil (bk_n (at_keep [3, 7, 8, 9] rfl ?_))
  refine at_region ?_
  obtain ⟨hb, hF⟩ := chk_some hF
  refine s_add tabOK rfl rfl rfl hb rfl ?_
  refine sxk 1 tabOK rfl ?_
  exact aops_nil (arr_loop ⟨((max x3 x7), (x4 + 1)), hF, (le_down (down_all (ee_cons rfl rfl rfl (ee_cons rfl rfl (cDat.ok_psl _ rfl) (ee_cons rfl rfl rfl (ee_cons rfl rfl rfl ee_nil)))) he_nil rfl rfl rfl rfl))⟩)
 ·refine at_exit (tk_x (ll_x (bk_hit (at_seq (at_region (sxk 1 tabOK rfl ?_))))))
  obtain ⟨hb, hF⟩ := chk_some hF
  refine s_add tabOK rfl rfl rfl hb rfl ?_
  refine sxk 1 tabOK rfl ?_
  refine aops_nil (at_ret ?_)
  obtain rfl := Option.some.inj hF
  refine ret_le rfl ?_
  exact (vle_refl _)

theorem s_DepthOf_all (n : Nat) : (∀ (d : PDat) (q : Int), s_DepthOf n d = some q → FC Tryd.prog 69 [.agg (cDat.row 0 d)] [] 3 (fun x _ => x = .int .i64 q)) := by
 induction n with
 | zero => exact fun _ q h => by cases h
 | succ n ih => exact fun d q h => s_DepthOf_bok (s_DepthOf n) ih d q h

theorem s_DepthOf_ok (n : Nat) (d : PDat) (q : Int) (hF : s_DepthOf n d = some q) : FC Tryd.prog 69 [.agg (cDat.row 0 d)] [] 3 (fun x _ => x = .int .i64 q) := (s_DepthOf_all n) d q hF

theorem s_l1Digit_ok (b : Int) (q : Bool) (hF : s_l1Digit b = some q) : FC Tryd.prog 93 [.int .u8 b] [] 3 (fun x _ => x = .bool q) := by
 refine FC.of_le ?_
 refine fc_body tabOK Tryd.func93 rfl Tryd.ntmps93 rfl rfl rfl ?_
 unfold s_l1Digit at hF
 refine at_seq (at_region (sxk 1 tabOK rfl ?_))
 refine aops_nil (at_seq (at_region (sxk 3 tabOK rfl ?_)))
 refine ops_if (g := 5) hF rfl (fun hc hF => ?_) (fun hc hF => ?_)
 ·refine sxk 4 tabOK rfl ?_
  refine aops_nil (at_ret ?_)
  obtain rfl := Option.some.inj hF
  refine ret_le rfl ?_
  exact (vle_refl _)
 ·refine sxk 4 tabOK rfl ?_
  refine aops_nil (at_ret ?_)
  obtain rfl := Option.some.inj hF
  refine ret_le rfl ?_
  exact (vle_refl _)

theorem s_l1Mark_ok (b : Int) (q : Bool) (hF : s_l1Mark b = some q) : FC Tryd.prog 94 [.int .u8 b] [] 3 (fun x _ => x = .bool q) := by
 refine FC.of_le ?_
 refine fc_body tabOK Tryd.func94 rfl Tryd.ntmps94 rfl rfl rfl ?_
 unfold s_l1Mark at hF
 refine at_seq (at_region (sxk 1 tabOK rfl ?_))
 refine aops_nil (at_seq (at_seq (cl_midn (σ := Bool) (fun x2 => ⟨[(0, .int .u8 b), (14, .bool x2)], [], 3, 26, []⟩) (fun x2 => s_l1Mark_J1 b x2 = some q) ?_ ?_)))
 ·refine at_region (sxk 3 tabOK rfl ?_)
  refine ops_if (g := 7) hF rfl (fun hc hF => ?_) (fun hc hF => ?_)
  ·refine sxk 4 tabOK rfl ?_
   refine ops_if (g := 11) hF rfl (fun hc hF => ?_) (fun hc hF => ?_)
   ·refine sxk 3 tabOK rfl ?_
    exact aops_nil (arr_cut ⟨true, hF, (le_down (down_all (ee_cons rfl rfl rfl (ee_cons rfl rfl rfl ee_nil)) he_nil rfl rfl rfl rfl))⟩)
   ·refine sxk 1 tabOK rfl ?_
    obtain ⟨x2, hx2, hF⟩ := bnd_some hF
    refine call_eq (s_l1Digit_ok b x2 hx2) rfl ((rlL_cons (rfl) rlL_nil)) rfl rfl ?_
    refine sxk 1 tabOK rfl ?_
    exact aops_nil (arr_cut ⟨x2, hF, (le_down (down_all (ee_cons rfl rfl rfl (ee_cons rfl rfl rfl ee_nil)) he_nil rfl rfl rfl rfl))⟩)
  ·refine sxk 5 tabOK rfl ?_
   obtain ⟨x2, hx2, hF⟩ := bnd_some hF
   refine call_eq (s_l1Digit_ok b x2 hx2) rfl ((rlL_cons (rfl) rlL_nil)) rfl rfl ?_
   refine sxk 1 tabOK rfl ?_
   exact aops_nil (arr_cut ⟨x2, hF, (le_down (down_all (ee_cons rfl rfl rfl (ee_cons rfl rfl rfl ee_nil)) he_nil rfl rfl rfl rfl))⟩)
 ·rintro x2 hF
  refine at_eq (s' := ⟨[(0, .int .u8 b), (14, .bool x2)], [], 3, 26, []⟩) rfl ?_
  replace hF : s_l1Mark_J1 b x2 = some q := hF
  unfold s_l1Mark_J1 at hF
  refine ct_b hF rfl (fun hc hF => ?_) (fun hc hF => ?_)
  ·refine at_seq (at_region (sxk 1 tabOK rfl ?_))
   refine aops_nil (at_ret (tk_r ?_))
   obtain rfl := Option.some.inj hF
   refine ret_le rfl ?_
   exact (vle_refl _)
  ·refine at_skip (at_seq (at_region (sxk 1 tabOK rfl ?_)))
   refine aops_nil (at_seq (at_seq (at_region (sxk 1 tabOK rfl ?_))))
   refine aops_nil (at_block (cl_loop (σ := Int) (fun i3 => ⟨[(0, .int .u8 b), (3, .str ([33, 63, 42, 60, 62, 61, 47, 43, 45, 46, 95] : List UInt8)), (4, .int .i64 i3)], [], 3, 26, []⟩) (s_l1Mark_L2 b) LF 0 hF (le_down (down_all (ee_cons rfl rfl rfl (ee_cons rfl rfl rfl (ee_cons rfl rfl rfl ee_nil))) he_nil rfl rfl rfl rfl)) ?_))
   rintro lk_ i3 hF
   refine at_eq (s' := ⟨[(0, .int .u8 b), (3, .str ([33, 63, 42, 60, 62, 61, 47, 43, 45, 46, 95] : List UInt8)), (4, .int .i64 i3)], [], 3, 26, []⟩) rfl ?_
   replace hF : s_l1Mark_L2b b (itr (s_l1Mark_L2 b) lk_) i3 = some q := hF
   unfold s_l1Mark_L2b at hF
   generalize itr (s_l1Mark_L2 b) lk_ = go4 at hF ⊢
   refine at_seq (at_seq (at_region (sxk 4 tabOK rfl ?_)))
   refine aops_nil (ct_if hF rfl (fun hc hF => ?_) (fun hc hF => ?_))
   ·refine at_skip (at_seq (at_block (at_seq (at_region (sxk 2 tabOK rfl ?_)))))
    obtain ⟨x5, hn_x5, hF⟩ := bnd_some hF
    refine sv rfl (oc_byte hn_x5 tabOK rfl rfl rfl) rfl ?_
    refine sxk 2 tabOK rfl ?_
    refine aops_nil (ct_if hF rfl (fun hc hF => ?_) (fun hc hF => ?_))
    ·refine at_seq (at_keep [] rfl ?_)
     refine at_region (sxk 1 tabOK rfl ?_)
     refine aops_nil (at_ret (bk_r (tk_r (ll_r (bk_r (tk_r ?_))))))
     obtain rfl := Option.some.inj hF
     refine ret_le rfl ?_
     exact (vle_refl _)
    ·refine at_skip (bk_n (at_keep [0, 3, 4] rfl ?_))
     refine at_region (sxk 1 tabOK rfl ?_)
     obtain ⟨hb, hF⟩ := chk_some hF
     refine s_add tabOK rfl rfl rfl hb rfl ?_
     refine sxk 1 tabOK rfl ?_
     exact aops_nil (arr_loop ⟨(i3 + 1), hF, (le_down (down_all (ee_cons rfl rfl rfl (ee_cons rfl rfl rfl (ee_cons rfl rfl rfl ee_nil))) he_nil rfl rfl rfl rfl))⟩)
   ·refine at_exit (tk_x (ll_x (bk_hit (at_seq (at_keep [] rfl ?_)))))
    refine at_region (sxk 1 tabOK rfl ?_)
    refine aops_nil (at_ret ?_)
    obtain rfl := Option.some.inj hF
    refine ret_le rfl ?_
    exact (vle_refl _)

theorem s_IsSymbol_ok (s : List UInt8) (q : Bool) (hF : s_IsSymbol s = some q) : FC Tryd.prog 84 [.str s] [] 3 (fun x _ => x = .bool q) := by
 refine FC.of_le ?_
 refine fc_body tabOK Tryd.func84 rfl Tryd.ntmps84 rfl rfl rfl ?_
 unfold s_IsSymbol at hF
 refine at_seq (at_region (sxk 1 tabOK rfl ?_))
 refine aops_nil (at_seq (at_seq (cl_midn (σ := Bool) (fun x2 => ⟨[(0, .str s), (27, .bool x2)], [], 3, 39, []⟩) (fun x2 => s_IsSymbol_J1 s x2 = some q) ?_ ?_)))
 ·refine at_region (sxk 2 tabOK rfl ?_)
  obtain ⟨x2, hx2, hF⟩ := bnd_some hF
  refine call_eq (s_l1In_ok (s.length : Int) 1 16 x2 hx2) rfl ((rlL_cons (rfl) (rlL_cons (rfl) (rlL_cons (rfl) rlL_nil)))) rfl rfl ?_
  refine sxk 2 tabOK rfl ?_
  refine ops_ifnb (g := 8) hF rfl (fun hc hF => ?_) (fun hc hF => ?_)
  ·refine sxk 19 tabOK rfl ?_
   exact aops_nil (arr_cut ⟨true, hF, (le_down (down_all (ee_cons rfl rfl rfl (ee_cons rfl rfl rfl ee_nil)) he_nil rfl rfl rfl rfl))⟩)
  ·refine sxk 1 tabOK rfl ?_
   obtain ⟨x3, hn_x3, hF⟩ := bnd_some hF
   refine sv rfl (oc_byte hn_x3 tabOK rfl rfl rfl) rfl ?_
   obtain ⟨x4, hx4, hF⟩ := bnd_some hF
   refine call_eq (s_l1Digit_ok (x3.toNat : Int) x4 hx4) rfl ((rlL_cons (rfl) rlL_nil)) rfl rfl ?_
   refine sxk 2 tabOK rfl ?_
   refine ops_ifb (g := 13) hF rfl (fun hc hF => ?_) (fun hc hF => ?_)
   ·refine sxk 14 tabOK rfl ?_
    exact aops_nil (arr_cut ⟨true, hF, (le_down (down_all (ee_cons rfl rfl rfl (ee_cons rfl rfl rfl ee_nil)) he_nil rfl rfl rfl rfl))⟩)
   ·refine sxk 1 tabOK rfl ?_
    obtain ⟨x5, hn_x5, hF⟩ := bnd_some hF
    refine sv rfl (oc_byte hn_x5 tabOK rfl rfl rfl) rfl ?_
    refine sxk 2 tabOK rfl ?_
    refine ops_if (g := 17) hF rfl (fun hc hF => ?_) (fun hc hF => ?_)
    ·refine sxk 5 tabOK rfl ?_
     refine ops_if (g := 22) hF rfl (fun hc hF => ?_) (fun hc hF => ?_)
     ·refine sxk 1 tabOK rfl ?_
      obtain ⟨x6, hn_x6, hF⟩ := bnd_some hF
      refine sv rfl (oc_byte hn_x6 tabOK rfl rfl rfl) rfl ?_
      obtain ⟨x7, hx7, hF⟩ := bnd_some hF
      refine call_eq (s_l1Digit_ok (x6.toNat : Int) x7 hx7) rfl ((rlL_cons (rfl) rlL_nil)) rfl rfl ?_
      refine sxk 2 tabOK rfl ?_
      exact aops_nil (arr_cut ⟨x7, hF, (le_down (down_all (ee_cons rfl rfl rfl (ee_cons rfl rfl rfl ee_nil)) he_nil rfl rfl rfl rfl))⟩)
     ·refine sxk 5 tabOK rfl ?_
      exact aops_nil (arr_cut ⟨false, hF, (le_down (down_all (ee_cons rfl rfl rfl (ee_cons rfl rfl rfl ee_nil)) he_nil rfl rfl rfl rfl))⟩)
    ·refine sxk 10 tabOK rfl ?_
     exact aops_nil (arr_cut ⟨false, hF, (le_down (down_all (ee_cons rfl rfl rfl (ee_cons rfl rfl rfl ee_nil)) he_nil rfl rfl rfl rfl))⟩)
 ·rintro x2 hF
  refine at_eq (s' := ⟨[(0, .str s), (27, .bool x2)], [], 3, 39, []⟩) rfl ?_
  replace hF : s_IsSymbol_J1 s x2 = some q := hF
  unfold s_IsSymbol_J1 at hF
  refine ct_b hF rfl (fun hc hF => ?_) (fun hc hF => ?_)
  ·refine at_seq (at_region (sxk 1 tabOK rfl ?_))
   refine aops_nil (at_ret (tk_r ?_))
   obtain rfl := Option.some.inj hF
   refine ret_le rfl ?_
   exact (vle_refl _)
  ·refine at_skip (at_seq (at_seq (at_region (sxk 1 tabOK rfl ?_))))
   refine aops_nil (at_block (cl_loop (σ := Int) (fun i3 => ⟨[(0, .str s), (3, .int .i64 i3)], [], 3, 39, []⟩) (s_IsSymbol_L2 s) LF 0 hF (le_down (down_all (ee_cons rfl rfl rfl (ee_cons rfl rfl rfl ee_nil)) he_nil rfl rfl rfl rfl)) ?_))
   rintro lk_ i3 hF
   refine at_eq (s' := ⟨[(0, .str s), (3, .int .i64 i3)], [], 3, 39, []⟩) rfl ?_
   replace hF : s_IsSymbol_L2b s (itr (s_IsSymbol_L2 s) lk_) i3 = some q := hF
   unfold s_IsSymbol_L2b at hF
   generalize itr (s_IsSymbol_L2 s) lk_ = go4 at hF ⊢
   refine at_seq (at_seq (at_region (sxk 4 tabOK rfl ?_)))
   refine aops_nil (ct_if hF rfl (fun hc hF => ?_) (fun hc hF => ?_))
   ·refine at_skip (at_seq (at_block (at_seq (at_region (sxk 2 tabOK rfl ?_)))))
    obtain ⟨x5, hn_x5, hF⟩ := bnd_some hF
    refine sv rfl (oc_byte hn_x5 tabOK rfl rfl rfl) rfl ?_
    obtain ⟨x6, hx6, hF⟩ := bnd_some hF
    refine call_eq (s_l1Mark_ok (x5.toNat : Int) x6 hx6) rfl ((rlL_cons (rfl) rlL_nil)) rfl rfl ?_
    refine sxk 1 tabOK rfl ?_
    refine aops_nil (ct_bn hF rfl (fun hc hF => ?_) (fun hc hF => ?_))
    ·refine at_seq (at_keep [] rfl ?_)
     refine at_region (sxk 1 tabOK rfl ?_)
     refine aops_nil (at_ret (bk_r (tk_r (ll_r (bk_r (tk_r ?_))))))
     obtain rfl := Option.some.inj hF
     refine ret_le rfl ?_
     exact (vle_refl _)
    ·refine at_skip (bk_n (at_keep [0, 3] rfl ?_))
     refine at_region (sxk 1 tabOK rfl ?_)
     obtain ⟨hb, hF⟩ := chk_some hF
     refine s_add tabOK rfl rfl rfl hb rfl ?_
     refine sxk 1 tabOK rfl ?_
     exact aops_nil (arr_loop ⟨(i3 + 1), hF, (le_down (down_all (ee_cons rfl rfl rfl (ee_cons rfl rfl rfl ee_nil)) he_nil rfl rfl rfl rfl))⟩)
   ·refine at_exit (tk_x (ll_x (bk_hit (at_seq (at_region (sxk 1 tabOK rfl ?_))))))
    refine aops_nil (at_ret ?_)
    obtain rfl := Option.some.inj hF
    refine ret_le rfl ?_
    exact (vle_refl _)

theorem s_l1String_ok (s : List UInt8) (q : Bool) (hF : s_l1String s = some q) : FC Tryd.prog 85 [.str s] [] 3 (fun x _ => x = .bool q) := by
 refine FC.of_le ?_
 refine fc_body tabOK Tryd.func85 rfl Tryd.ntmps85 rfl rfl rfl ?_
 unfold s_l1String at hF
 refine at_seq (at_region (sxk 1 tabOK rfl ?_))
 refine aops_nil (at_seq (at_seq (at_region (sxk 1 tabOK rfl ?_))))
 refine aops_nil (at_block (cl_loop (σ := Int) (fun i2 => ⟨[(0, .str s), (3, .int .i64 i2)], [], 3, 29, []⟩) (s_l1String_L1 s) LF 0 hF (le_down (down_all (ee_cons rfl rfl rfl (ee_cons rfl rfl rfl ee_nil)) he_nil rfl rfl rfl rfl)) ?_))
 rintro lk_ i2 hF
 refine at_eq (s' := ⟨[(0, .str s), (3, .int .i64 i2)], [], 3, 29, []⟩) rfl ?_
 replace hF : s_l1String_L1b s (itr (s_l1String_L1 s) lk_) i2 = some q := hF
 unfold s_l1String_L1b at hF
 generalize itr (s_l1String_L1 s) lk_ = go3 at hF ⊢
 refine at_seq (at_seq (at_region (sxk 4 tabOK rfl ?_)))
 refine aops_nil (ct_if hF rfl (fun hc hF => ?_) (fun hc hF => ?_))
 ·refine at_skip (at_seq (at_block (at_seq (at_region (sxk 2 tabOK rfl ?_)))))
  obtain ⟨x4, hn_x4, hF⟩ := bnd_some hF
  refine sv rfl (oc_byte hn_x4 tabOK rfl rfl rfl) rfl ?_
  refine sxk 2 tabOK rfl ?_
  refine ops_if (g := 14) hF rfl (fun hc hF => ?_) (fun hc hF => ?_)
  ·refine sxk 11 tabOK rfl ?_
   refine aops_nil (at_true rfl (at_seq (at_keep [] rfl ?_)))
   refine at_region (sxk 1 tabOK rfl ?_)
   refine aops_nil (at_ret (bk_r (tk_r (ll_r (bk_r (tk_r ?_))))))
   obtain rfl := Option.some.inj hF
   refine ret_le rfl ?_
   exact (vle_refl _)
  ·refine sxk 2 tabOK rfl ?_
   obtain ⟨x5, hn_x5, hF⟩ := bnd_some hF
   refine sv rfl (oc_byte hn_x5 tabOK rfl rfl rfl) rfl ?_
   refine sxk 3 tabOK rfl ?_
   refine ops_if (g := 20) hF rfl (fun hc hF => ?_) (fun hc hF => ?_)
   ·refine sxk 5 tabOK rfl ?_
    refine aops_nil (at_true rfl (at_seq (at_keep [] rfl ?_)))
    refine at_region (sxk 1 tabOK rfl ?_)
    refine aops_nil (at_ret (bk_r (tk_r (ll_r (bk_r (tk_r ?_))))))
    obtain rfl := Option.some.inj hF
    refine ret_le rfl ?_
    exact (vle_refl _)
   ·refine sxk 2 tabOK rfl ?_
    obtain ⟨x6, hn_x6, hF⟩ := bnd_some hF
    refine sv rfl (oc_byte hn_x6 tabOK rfl rfl rfl) rfl ?_
    refine sxk 2 tabOK rfl ?_
    refine aops_nil (ct_if hF rfl (fun hc hF => ?_) (fun hc hF => ?_))
    ·refine at_seq (at_keep [] rfl ?_)
     refine at_region (sxk 1 tabOK rfl ?_)
     refine aops_nil (at_ret (bk_r (tk_r (ll_r (bk_r (tk_r ?_))))))
     obtain rfl := Option.some.inj hF
     refine ret_le rfl ?_
     exact (vle_refl _)
    ·refine at_skip (bk_n (at_keep [0, 3, 15, 16, 17, 18, 21, 22, 23, 24] rfl ?_))
     refine at_region (sxk 1 tabOK rfl ?_)
     obtain ⟨hb, hF⟩ := chk_some hF
     refine s_add tabOK rfl rfl rfl hb rfl ?_
     refine sxk 1 tabOK rfl ?_
     exact aops_nil (arr_loop ⟨(i2 + 1), hF, (le_down (down_all (ee_cons rfl rfl rfl (ee_cons rfl rfl rfl ee_nil)) he_nil rfl rfl rfl rfl))⟩)
 ·refine at_exit (tk_x (ll_x (bk_hit (at_seq (at_region (sxk 4 tabOK rfl ?_))))))
  refine aops_nil (at_ret ?_)
  obtain rfl := Option.some.inj hF
  refine ret_le rfl ?_
  exact (vle_refl _)

theorem s_l1Node_ok (kind : Int) (number : Int) (text : List UInt8) (items : Int) (q : Bool) (hF : s_l1Node kind number text items = some q) : FC Tryd.prog 76 [.int .i64 kind, .int .i64 number, .str text, .int .i64 items] [] 3 (fun x _ => x = .bool q) := by
 refine FC.of_le ?_
 refine fc_body tabOK Tryd.func76 rfl Tryd.ntmps76 rfl rfl rfl ?_
 unfold s_l1Node at hF
 refine at_seq (at_region (sxk 1 tabOK rfl ?_))
 refine aops_nil (at_seq (at_seq (at_region (sxk 1 tabOK rfl ?_))))
 refine aops_nil (at_block (at_seq (at_region (sxk 2 tabOK rfl ?_))))
 refine aops_nil (ct_if hF rfl (fun hc hF => ?_) (fun hc hF => ?_))
 ·refine at_seq (at_region (sxk 3 tabOK rfl ?_))
  refine ops_if (g := 14) hF rfl (fun hc hF => ?_) (fun hc hF => ?_)
  ·refine sxk 4 tabOK rfl ?_
   refine aops_nil (at_ret (bk_r (tk_r ?_)))
   obtain rfl := Option.some.inj hF
   refine ret_le rfl ?_
   exact (vle_refl _)
  ·refine sxk 4 tabOK rfl ?_
   refine aops_nil (at_ret (bk_r (tk_r ?_)))
   obtain rfl := Option.some.inj hF
   refine ret_le rfl ?_
   exact (vle_refl _)
 ·refine at_seq (at_region (sxk 2 tabOK rfl ?_))
  refine aops_nil (ct_if hF rfl (fun hc hF => ?_) (fun hc hF => ?_))
  ·refine at_seq (at_keep [1, 2, 3] rfl ?_)
   refine at_region (sxk 3 tabOK rfl ?_)
   refine ops_if (g := 22) hF rfl (fun hc hF => ?_) (fun hc hF => ?_)
   ·refine sxk 1 tabOK rfl ?_
    obtain ⟨x5, hx5, hF⟩ := bnd_some hF
    refine call_eq (s_IsSymbol_ok text x5 hx5) rfl ((rlL_cons (rfl) rlL_nil)) rfl rfl ?_
    refine sxk 2 tabOK rfl ?_
    refine ops_ifb (g := 26) hF rfl (fun hc hF => ?_) (fun hc hF => ?_)
    ·refine sxk 4 tabOK rfl ?_
     refine aops_nil (at_ret (bk_r (tk_r ?_)))
     obtain rfl := Option.some.inj hF
     refine ret_le rfl ?_
     exact (vle_refl _)
    ·refine sxk 4 tabOK rfl ?_
     refine aops_nil (at_ret (bk_r (tk_r ?_)))
     obtain rfl := Option.some.inj hF
     refine ret_le rfl ?_
     exact (vle_refl _)
   ·refine sxk 8 tabOK rfl ?_
    refine aops_nil (at_ret (bk_r (tk_r ?_)))
    obtain rfl := Option.some.inj hF
    refine ret_le rfl ?_
    exact (vle_refl _)
  ·refine at_seq (at_region (sxk 2 tabOK rfl ?_))
   refine aops_nil (ct_if hF rfl (fun hc hF => ?_) (fun hc hF => ?_))
   ·refine at_seq (at_keep [1, 2, 3] rfl ?_)
    refine at_region (sxk 1 tabOK rfl ?_)
    obtain ⟨x5, hx5, hF⟩ := bnd_some hF
    refine call_eq (s_l1In_ok number (-999999999) 999999999 x5 hx5) rfl ((rlL_cons (rfl) (rlL_cons (rfl) (rlL_cons (rfl) rlL_nil)))) rfl rfl ?_
    refine sxk 1 tabOK rfl ?_
    refine ops_ifb (g := 34) hF rfl (fun hc hF => ?_) (fun hc hF => ?_)
    ·refine sxk 4 tabOK rfl ?_
     refine ops_if (g := 38) hF rfl (fun hc hF => ?_) (fun hc hF => ?_)
     ·refine sxk 4 tabOK rfl ?_
      refine aops_nil (at_ret (bk_r (tk_r ?_)))
      obtain rfl := Option.some.inj hF
      refine ret_le rfl ?_
      exact (vle_refl _)
     ·refine sxk 4 tabOK rfl ?_
      refine aops_nil (at_ret (bk_r (tk_r ?_)))
      obtain rfl := Option.some.inj hF
      refine ret_le rfl ?_
      exact (vle_refl _)
    ·refine sxk 8 tabOK rfl ?_
     refine aops_nil (at_ret (bk_r (tk_r ?_)))
     obtain rfl := Option.some.inj hF
     refine ret_le rfl ?_
     exact (vle_refl _)
   ·refine at_seq (at_keep [1, 2, 3, 9] rfl ?_)
    refine at_region (sxk 2 tabOK rfl ?_)
    refine aops_nil (ct_if hF rfl (fun hc hF => ?_) (fun hc hF => ?_))
    ·refine at_seq (at_region (sxk 1 tabOK rfl ?_))
     obtain ⟨x5, hx5, hF⟩ := bnd_some hF
     refine call_eq (s_l1In_ok number 0 1 x5 hx5) rfl ((rlL_cons (rfl) (rlL_cons (rfl) (rlL_cons (rfl) rlL_nil)))) rfl rfl ?_
     refine sxk 1 tabOK rfl ?_
     refine ops_ifb (g := 46) hF rfl (fun hc hF => ?_) (fun hc hF => ?_)
     ·refine sxk 4 tabOK rfl ?_
      refine ops_if (g := 50) hF rfl (fun hc hF => ?_) (fun hc hF => ?_)
      ·refine sxk 4 tabOK rfl ?_
       refine aops_nil (at_ret (bk_r (tk_r ?_)))
       obtain rfl := Option.some.inj hF
       refine ret_le rfl ?_
       exact (vle_refl _)
      ·refine sxk 4 tabOK rfl ?_
       refine aops_nil (at_ret (bk_r (tk_r ?_)))
       obtain rfl := Option.some.inj hF
       refine ret_le rfl ?_
       exact (vle_refl _)
     ·refine sxk 8 tabOK rfl ?_
      refine aops_nil (at_ret (bk_r (tk_r ?_)))
      obtain rfl := Option.some.inj hF
      refine ret_le rfl ?_
      exact (vle_refl _)
    ·refine at_seq (at_region (sxk 2 tabOK rfl ?_))
     refine aops_nil (ct_if hF rfl (fun hc hF => ?_) (fun hc hF => ?_))
     ·refine at_seq (at_region (sxk 3 tabOK rfl ?_))
      refine ops_if (g := 58) hF rfl (fun hc hF => ?_) (fun hc hF => ?_)
      ·refine sxk 1 tabOK rfl ?_
       obtain ⟨x5, hx5, hF⟩ := bnd_some hF
       refine call_eq (s_l1String_ok text x5 hx5) rfl ((rlL_cons (rfl) rlL_nil)) rfl rfl ?_
       refine sxk 2 tabOK rfl ?_
       refine ops_ifb (g := 62) hF rfl (fun hc hF => ?_) (fun hc hF => ?_)
       ·refine sxk 4 tabOK rfl ?_
        refine aops_nil (at_ret (bk_r (tk_r ?_)))
        obtain rfl := Option.some.inj hF
        refine ret_le rfl ?_
        exact (vle_refl _)
       ·refine sxk 4 tabOK rfl ?_
        refine aops_nil (at_ret (bk_r (tk_r ?_)))
        obtain rfl := Option.some.inj hF
        refine ret_le rfl ?_
        exact (vle_refl _)
      ·refine sxk 8 tabOK rfl ?_
       refine aops_nil (at_ret (bk_r (tk_r ?_)))
       obtain rfl := Option.some.inj hF
       refine ret_le rfl ?_
       exact (vle_refl _)
     ·refine at_skip (bk_n (at_seq (at_keep [] rfl ?_)))
      refine at_region (sxk 1 tabOK rfl ?_)
      refine aops_nil (at_ret ?_)
      obtain rfl := Option.some.inj hF
      refine ret_le rfl ?_
      exact (vle_refl _)

theorem s_l1Nodes_bok (s_l1Nodes : PDat → Option Bool) (h_s_l1Nodes : ∀ (d : PDat) (q : Bool), s_l1Nodes d = some q → FC Tryd.prog 70 [.agg (cDat.row 0 d)] [] 3 (fun x _ => x = .bool q)) (d : PDat) (q : Bool) (hF : s_l1Nodes_b s_l1Nodes d = some q) : FC Tryd.prog 70 [.agg (cDat.row 0 d)] [] 3 (fun x _ => x = .bool q) := by
 refine FC.of_le ?_
 refine fc_body tabOK Tryd.func70 rfl Tryd.ntmps70 rfl rfl rfl ?_
 unfold s_l1Nodes_b at hF
 refine at_seq (at_region (sxk 2 tabOK rfl ?_))
 refine aops_nil (at_seq (at_seq (at_region (sxk 2 tabOK rfl ?_))))
 refine sv rfl (oc_len cDat tabOK rfl rfl rfl) rfl ?_
 refine sxk 1 tabOK rfl ?_
 refine aops_nil (at_block (cl_loop (σ := Int) (fun x3 => ⟨[(1, .ptr 3 1 0 0), (6, .psl 0 4 (d.items.map (cDat.enc 0))), (7, .int .i64 (d.items.length : Int)), (8, .int .i64 x3)], [(3, ⟨4, [cDat.row 0 d]⟩)], 4, 26, []⟩) (s_l1Nodes_L1 s_l1Nodes d) LF 0 hF (le_down (down_all (ee_cons rfl rfl (Nat.le_of_ble_eq_true rfl) (ee_cons rfl rfl (cDat.ok_psl _ rfl) (ee_cons rfl rfl rfl (ee_cons rfl rfl rfl ee_nil)))) (he_cons rfl rfl rfl (row_one (cDat.row_ok _ rfl)) he_nil) rfl rfl rfl rfl)) ?_))
 rintro lk_ x3 hF
 refine at_eq (s' := ⟨[(1, .ptr 3 1 0 0), (6, .psl 0 4 (d.items.map (cDat.enc 0))), (7, .int .i64 (d.items.length : Int)), (8, .int .i64 x3)], [(3, ⟨4, [cDat.row 0 d]⟩)], 4, 26, []⟩) rfl ?_
 replace hF : s_l1Nodes_L1b s_l1Nodes d (itr (s_l1Nodes_L1 s_l1Nodes d) lk_) x3 = some q := hF
 unfold s_l1Nodes_L1b at hF
 generalize itr (s_l1Nodes_L1 s_l1Nodes d) lk_ = go4 at hF ⊢
 refine at_seq (at_region (sxk 1 tabOK rfl ?_))
 refine aops_nil (at_seq (ct_if hF rfl (fun hc hF => ?_) (fun hc hF => ?_)))
 ·refine at_skip (at_seq (at_block (at_seq (at_region ?_))))
  obtain ⟨x5, hn_x5, hF⟩ := bnd_some hF
  refine sv rfl (oc_addr cDat hn_x5 tabOK rfl rfl rfl rfl) rfl ?_
  refine sxk 3 tabOK rfl ?_
  refine aops_nil (at_seq (at_region (sxk 1 tabOK rfl ?_)))
  obtain ⟨x6, hx6, hF⟩ := bnd_some hF
  refine call_eq (h_s_l1Nodes x5 x6 hx6) rfl ((rlL_cons (cDat.rl_agg (l := 0) (l' := 0) _ x5 rfl) rlL_nil)) rfl rfl ?_
  refine sxk 1 tabOK rfl ?_
  refine aops_nil (ct_bn hF rfl (fun hc hF => ?_) (fun hc hF => ?_))
  ·refine at_seq (at_keep [] rfl ?_)
   refine at_region (sxk 1 tabOK rfl ?_)
   refine aops_nil (at_ret (bk_r (tk_r (ll_r (bk_r (tk_r ?_))))))
   obtain rfl := Option.some.inj hF
   refine ret_le rfl ?_
   exact (vle_refl _)
  ·refine at_skip (bk_n (at_keep [1, 6, 7, 8] rfl ?_))
   refine at_region ?_
   obtain ⟨hb, hF⟩ := chk_some hF
   refine s_add tabOK rfl rfl rfl hb rfl ?_
   refine sxk 1 tabOK rfl ?_
   exact aops_nil (arr_loop ⟨(x3 + 1), hF, (le_down (down_all (ee_cons rfl rfl (Nat.le_of_ble_eq_true rfl) (ee_cons rfl rfl (cDat.ok_psl _ rfl) (ee_cons rfl rfl rfl (ee_cons rfl rfl rfl ee_nil)))) (he_cons rfl rfl rfl (row_one (cDat.row_ok _ rfl)) he_nil) rfl rfl rfl rfl))⟩)
 ·refine at_exit (tk_x (ll_x (bk_hit (at_seq (at_region (sxk 8 tabOK rfl ?_))))))
  refine sv rfl (oc_len cDat tabOK rfl rfl rfl) rfl ?_
  obtain ⟨x5, hx5, hF⟩ := bnd_some hF
  refine call_eq (s_l1Node_ok d.kind d.number d.text (d.items.length : Int) x5 hx5) rfl ((rlL_cons (rfl) (rlL_cons (rfl) (rlL_cons (rfl) (rlL_cons (rfl) rlL_nil))))) rfl rfl ?_
  refine sxk 1 tabOK rfl ?_
  refine aops_nil (at_ret ?_)
  obtain rfl := Option.some.inj hF
  refine ret_le rfl ?_
  exact (vle_refl _)

theorem s_l1Nodes_all (n : Nat) : (∀ (d : PDat) (q : Bool), s_l1Nodes n d = some q → FC Tryd.prog 70 [.agg (cDat.row 0 d)] [] 3 (fun x _ => x = .bool q)) := by
 induction n with
 | zero => exact fun _ q h => by cases h
 | succ n ih => exact fun d q h => s_l1Nodes_bok (s_l1Nodes n) ih d q h

theorem s_l1Nodes_ok (n : Nat) (d : PDat) (q : Bool) (hF : s_l1Nodes n d = some q) : FC Tryd.prog 70 [.agg (cDat.row 0 d)] [] 3 (fun x _ => x = .bool q) := (s_l1Nodes_all n) d q hF

theorem s_IsDatum_ok (d : PDat) (q : Bool) (hF : s_IsDatum d = some q) : FC Tryd.prog 56 [.agg (cDat.row 0 d)] [] 3 (fun x _ => x = .bool q) := by
 refine FC.of_le ?_
 refine fc_body tabOK Tryd.func56 rfl Tryd.ntmps56 rfl rfl rfl ?_
 unfold s_IsDatum at hF
 refine at_seq (at_region (sxk 2 tabOK rfl ?_))
 refine aops_nil (at_seq (at_region (sxk 2 tabOK rfl ?_)))
 refine aops_nil (at_seq (at_region (sxk 1 tabOK rfl ?_)))
 obtain ⟨x2, hx2, hF⟩ := bnd_some hF
 refine call_lend1 4 (s_l1Few_ok RF d 600 x2 hx2) rfl (rnL_cons (rn_of_rl _ (cDat.rl_agg (l := 0) (l' := 0) _ d rfl)) (rnL_cons rfl rnL_nil)) rfl rfl rfl rfl rfl ?_
 refine sxk 1 tabOK rfl ?_
 refine ops_ifb (g := 6) hF rfl (fun hc hF => ?_) (fun hc hF => ?_)
 ·refine sxk 1 tabOK rfl ?_
  obtain ⟨x3, hx3, hF⟩ := bnd_some hF
  refine call_eq (s_DepthOf_ok RF d x3 hx3) rfl ((rlL_cons (cDat.rl_agg (l := 0) (l' := 0) _ d rfl) rlL_nil)) rfl rfl ?_
  refine sxk 3 tabOK rfl ?_
  refine ops_if (g := 11) hF rfl (fun hc hF => ?_) (fun hc hF => ?_)
  ·refine sxk 1 tabOK rfl ?_
   obtain ⟨x4, hx4, hF⟩ := bnd_some hF
   refine call_eq (s_l1Nodes_ok RF d x4 hx4) rfl ((rlL_cons (cDat.rl_agg (l := 0) (l' := 0) _ d rfl) rlL_nil)) rfl rfl ?_
   refine sxk 2 tabOK rfl ?_
   refine aops_nil (at_ret ?_)
   obtain rfl := Option.some.inj hF
   refine ret_le rfl ?_
   exact (vle_refl _)
  ·refine sxk 4 tabOK rfl ?_
   refine aops_nil (at_ret ?_)
   obtain rfl := Option.some.inj hF
   refine ret_le rfl ?_
   exact (vle_refl _)
 ·refine sxk 9 tabOK rfl ?_
  refine aops_nil (at_ret ?_)
  obtain rfl := Option.some.inj hF
  refine ret_le rfl ?_
  exact (vle_refl _)

theorem s_EqualData_bok (s_EqualData : PDat → PDat → Option Bool) (h_s_EqualData : ∀ (a : PDat) (b : PDat) (q : Bool), s_EqualData a b = some q → FC Tryd.prog 57 [.agg (cDat.row 0 a), .agg (cDat.row 0 b)] [] 3 (fun x _ => x = .bool q)) (a : PDat) (b : PDat) (q : Bool) (hF : s_EqualData_b s_EqualData a b = some q) : FC Tryd.prog 57 [.agg (cDat.row 0 a), .agg (cDat.row 0 b)] [] 3 (fun x _ => x = .bool q) := by
 refine FC.of_le ?_
 refine fc_body tabOK Tryd.func57 rfl Tryd.ntmps57 rfl rfl rfl ?_
 unfold s_EqualData_b at hF
 refine at_seq (at_region (sxk 3 tabOK rfl ?_))
 refine aops_nil (at_seq (at_seq (at_region (sxk 6 tabOK rfl ?_))))
 refine ops_ifn (g := 11) hF rfl (fun hc hF => ?_) (fun hc hF => ?_)
 ·refine sxk 22 tabOK rfl ?_
  refine aops_nil (at_true rfl (at_seq (at_keep [] rfl ?_)))
  refine at_region (sxk 1 tabOK rfl ?_)
  refine aops_nil (at_ret (tk_r ?_))
  obtain rfl := Option.some.inj hF
  refine ret_le rfl ?_
  exact (vle_refl _)
 ·refine sxk 7 tabOK rfl ?_
  refine ops_ifn (g := 18) hF rfl (fun hc hF => ?_) (fun hc hF => ?_)
  ·refine sxk 15 tabOK rfl ?_
   refine aops_nil (at_true rfl (at_seq (at_keep [] rfl ?_)))
   refine at_region (sxk 1 tabOK rfl ?_)
   refine aops_nil (at_ret (tk_r ?_))
   obtain rfl := Option.some.inj hF
   refine ret_le rfl ?_
   exact (vle_refl _)
  ·refine sxk 7 tabOK rfl ?_
   refine ops_ifn (g := 25) hF rfl (fun hc hF => ?_) (fun hc hF => ?_)
   ·refine sxk 8 tabOK rfl ?_
    refine aops_nil (at_true rfl (at_seq (at_keep [] rfl ?_)))
    refine at_region (sxk 1 tabOK rfl ?_)
    refine aops_nil (at_ret (tk_r ?_))
    obtain rfl := Option.some.inj hF
    refine ret_le rfl ?_
    exact (vle_refl _)
   ·refine sxk 2 tabOK rfl ?_
    refine sv rfl (oc_len cDat tabOK rfl rfl rfl) rfl ?_
    refine sxk 2 tabOK rfl ?_
    refine sv rfl (oc_len cDat tabOK rfl rfl rfl) rfl ?_
    refine sxk 2 tabOK rfl ?_
    refine aops_nil (ct_ifn hF rfl (fun hc hF => ?_) (fun hc hF => ?_))
    ·refine at_seq (at_keep [] rfl ?_)
     refine at_region (sxk 1 tabOK rfl ?_)
     refine aops_nil (at_ret (tk_r ?_))
     obtain rfl := Option.some.inj hF
     refine ret_le rfl ?_
     exact (vle_refl _)
    ·refine at_skip (at_seq (at_seq (at_keep [2, 3] rfl ?_)))
     refine at_region (sxk 2 tabOK rfl ?_)
     refine sv rfl (oc_len cDat tabOK rfl rfl rfl) rfl ?_
     refine sxk 1 tabOK rfl ?_
     refine aops_nil (at_block (cl_loop (σ := Int) (fun x4 => ⟨[(2, .ptr 3 1 0 0), (3, .ptr 4 1 0 0), (36, .int .i64 (a.items.length : Int)), (37, .int .i64 x4)], [(3, ⟨4, [cDat.row 0 a]⟩), (4, ⟨4, [cDat.row 0 b]⟩)], 5, 53, []⟩) (s_EqualData_L1 s_EqualData a b) LF 0 hF (le_down (down_all (ee_cons rfl rfl (Nat.le_of_ble_eq_true rfl) (ee_cons rfl rfl (Nat.le_of_ble_eq_true rfl) (ee_cons rfl rfl rfl (ee_cons rfl rfl rfl ee_nil)))) (he_cons rfl rfl rfl (row_one (cDat.row_ok _ rfl)) (he_cons rfl rfl rfl (row_one (cDat.row_ok _ rfl)) he_nil)) rfl rfl rfl rfl)) ?_))
     rintro lk_ x4 hF
     refine at_eq (s' := ⟨[(2, .ptr 3 1 0 0), (3, .ptr 4 1 0 0), (36, .int .i64 (a.items.length : Int)), (37, .int .i64 x4)], [(3, ⟨4, [cDat.row 0 a]⟩), (4, ⟨4, [cDat.row 0 b]⟩)], 5, 53, []⟩) rfl ?_
     replace hF : s_EqualData_L1b s_EqualData a b (itr (s_EqualData_L1 s_EqualData a b) lk_) x4 = some q := hF
     unfold s_EqualData_L1b at hF
     generalize itr (s_EqualData_L1 s_EqualData a b) lk_ = go5 at hF ⊢
     refine at_seq (at_region (sxk 1 tabOK rfl ?_))
     refine aops_nil (at_seq (ct_if hF rfl (fun hc hF => ?_) (fun hc hF => ?_)))
     ·refine at_skip (at_seq (at_block (at_seq (at_region (sxk 2 tabOK rfl ?_)))))
      refine aops_nil (at_seq (at_drawnM (id := 6) 10 (by kernel_rfl) (by kernel_rfl) ?_))
      refine nx tabOK rfl ?_
      refine nx tabOK rfl ?_
      refine nx tabOK rfl ?_
      obtain ⟨x6, hn_x6, hF⟩ := bnd_some hF
      refine nv rfl (oc_addr cDat hn_x6 tabOK rfl rfl rfl rfl) rfl ?_
      refine nx tabOK rfl ?_
      refine nx tabOK rfl ?_
      refine nx tabOK rfl ?_
      refine nx tabOK rfl ?_
      obtain ⟨x7, hn_x7, hF⟩ := bnd_some hF
      refine nv rfl (oc_addr cDat hn_x7 tabOK rfl rfl rfl rfl) rfl ?_
      refine nx tabOK rfl ?_
      refine dn_nil rfl ?_
      obtain ⟨x8, hx8, hF⟩ := bnd_some hF
      refine call_eq (h_s_EqualData x6 x7 x8 hx8) rfl ((rlL_cons (cDat.rl_agg (l := 0) (l' := 0) _ x6 rfl) (rlL_cons (cDat.rl_agg (l := 0) (l' := 0) _ x7 rfl) rlL_nil))) rfl rfl ?_
      refine sxk 1 tabOK rfl ?_
      refine aops_nil (ct_bn hF rfl (fun hc hF => ?_) (fun hc hF => ?_))
      ·refine at_seq (at_keep [] rfl ?_)
       refine at_region (sxk 1 tabOK rfl ?_)
       refine aops_nil (at_ret (bk_r (tk_r (ll_r (bk_r (tk_r ?_))))))
       obtain rfl := Option.some.inj hF
       refine ret_le rfl ?_
       exact (vle_refl _)
      ·refine at_skip (bk_n (at_keep [2, 3, 36, 37] rfl ?_))
       refine at_region ?_
       obtain ⟨hb, hF⟩ := chk_some hF
       refine s_add tabOK rfl rfl rfl hb rfl ?_
       refine sxk 1 tabOK rfl ?_
       exact aops_nil (arr_loop ⟨(x4 + 1), hF, (le_down (down_all (ee_cons rfl rfl (Nat.le_of_ble_eq_true rfl) (ee_cons rfl rfl (Nat.le_of_ble_eq_true rfl) (ee_cons rfl rfl rfl (ee_cons rfl rfl rfl ee_nil)))) (he_cons rfl rfl rfl (row_one (cDat.row_ok _ rfl)) (he_cons rfl rfl rfl (row_one (cDat.row_ok _ rfl)) he_nil)) rfl rfl rfl rfl))⟩)
     ·refine at_exit (tk_x (ll_x (bk_hit (at_seq (at_region (sxk 1 tabOK rfl ?_))))))
      refine aops_nil (at_ret ?_)
      obtain rfl := Option.some.inj hF
      refine ret_le rfl ?_
      exact (vle_refl _)

theorem s_EqualData_all (n : Nat) : (∀ (a : PDat) (b : PDat) (q : Bool), s_EqualData n a b = some q → FC Tryd.prog 57 [.agg (cDat.row 0 a), .agg (cDat.row 0 b)] [] 3 (fun x _ => x = .bool q)) := by
 induction n with
 | zero => exact fun _ _ q h => by cases h
 | succ n ih => exact fun a b q h => s_EqualData_bok (s_EqualData n) ih a b q h

theorem s_EqualData_ok (n : Nat) (a : PDat) (b : PDat) (q : Bool) (hF : s_EqualData n a b = some q) : FC Tryd.prog 57 [.agg (cDat.row 0 a), .agg (cDat.row 0 b)] [] 3 (fun x _ => x = .bool q) := (s_EqualData_all n) a b q hF

theorem s_l10Instr_ok (x_1 : PInstr) (q : Bool) (hF : s_l10Instr x_1 = some q) : FC Tryd.prog 39 [.agg (cInstr.row 0 x_1)] [] 3 (fun x _ => x = .bool q) := by
 refine FC.of_le ?_
 refine fc_body tabOK Tryd.func39 rfl Tryd.ntmps39 rfl rfl rfl ?_
 unfold s_l10Instr at hF
 refine at_seq (at_region (sxk 2 tabOK rfl ?_))
 refine aops_nil (at_seq (at_seq (at_region (sxk 2 tabOK rfl ?_))))
 obtain ⟨x2, hx2, hF⟩ := bnd_some hF
 refine call_eq (s_l1In_ok x_1.op 1 20 x2 hx2) rfl ((rlL_cons (rfl) (rlL_cons (rfl) (rlL_cons (rfl) rlL_nil)))) rfl rfl ?_
 refine sxk 1 tabOK rfl ?_
 refine aops_nil (ct_bn hF rfl (fun hc hF => ?_) (fun hc hF => ?_))
 ·refine at_seq (at_keep [] rfl ?_)
  refine at_region (sxk 1 tabOK rfl ?_)
  refine aops_nil (at_ret (tk_r ?_))
  obtain rfl := Option.some.inj hF
  refine ret_le rfl ?_
  exact (vle_refl _)
 ·refine at_skip (at_seq (at_seq (at_region (sxk 3 tabOK rfl ?_))))
  refine aops_nil (ct_if hF rfl (fun hc hF => ?_) (fun hc hF => ?_))
  ·refine at_seq (at_keep [1] rfl ?_)
   refine at_region (sxk 4 tabOK rfl ?_)
   refine ops_if (g := 13) hF rfl (fun hc hF => ?_) (fun hc hF => ?_)
   ·refine sxk 2 tabOK rfl ?_
    obtain ⟨x3, hx3, hF⟩ := bnd_some hF
    refine call_eq (s_IsDatum_ok x_1.d x3 hx3) rfl ((rlL_cons (cDat.rl_agg (l := 0) (l' := 0) _ x_1.d rfl) rlL_nil)) rfl rfl ?_
    refine sxk 2 tabOK rfl ?_
    refine aops_nil (at_ret (tk_r ?_))
    obtain rfl := Option.some.inj hF
    refine ret_le rfl ?_
    exact (vle_refl _)
   ·refine sxk 5 tabOK rfl ?_
    refine aops_nil (at_ret (tk_r ?_))
    obtain rfl := Option.some.inj hF
    refine ret_le rfl ?_
    exact (vle_refl _)
  ·refine at_skip (at_seq (at_keep [1] rfl ?_))
   refine at_region (sxk 2 tabOK rfl ?_)
   refine sv rfl (ov_build tabOK rfl rfl) rfl ?_
   refine ops_le (le_slot (y := .agg [.int .i64 0, .int .i64 0, .str ([] : List UInt8), .psl 1 4 ([].map (cDat.enc 1))]) 20 rfl (vle_agg (.cons (vle_refl _) (.cons (vle_refl _) (.cons (vle_refl _) (.cons (vle_nil _ _) .nil))))) rfl) ?_
   obtain ⟨x3, hx3, hF⟩ := bnd_some hF
   refine call_eq (s_EqualData_ok RF x_1.d (PDat.mk 0 0 ([] : List UInt8) []) x3 hx3) rfl ((rlL_cons (cDat.rl_agg (l := 0) (l' := 0) _ x_1.d rfl) (rlL_cons (rl_aggL (rlL_cons (rfl) (rlL_cons (rfl) (rlL_cons (rfl) (rlL_cons (cDat.rl_psl (l := 1) (l' := 0) _ [] rfl) rlL_nil))))) rlL_nil))) rfl rfl ?_
   refine sxk 1 tabOK rfl ?_
   refine ops_ifb (g := 22) hF rfl (fun hc hF => ?_) (fun hc hF => ?_)
   ·refine sxk 2 tabOK rfl ?_
    obtain ⟨x4, hx4, hF⟩ := bnd_some hF
    refine call_eq (s_l1In_ok x_1.a 0 4000 x4 hx4) rfl ((rlL_cons (rfl) (rlL_cons (rfl) (rlL_cons (rfl) rlL_nil)))) rfl rfl ?_
    refine sxk 2 tabOK rfl ?_
    refine ops_ifb (g := 27) hF rfl (fun hc hF => ?_) (fun hc hF => ?_)
    ·refine sxk 4 tabOK rfl ?_
     refine ops_if (g := 31) hF rfl (fun hc hF => ?_) (fun hc hF => ?_)
     ·refine sxk 7 tabOK rfl ?_
      refine aops_nil (at_ret ?_)
      obtain rfl := Option.some.inj hF
      refine ret_le rfl ?_
      exact (vle_refl _)
     ·refine sxk 2 tabOK rfl ?_
      obtain ⟨x5, hx5, hF⟩ := bnd_some hF
      refine call_eq (s_l10Plain_ok x_1.op x5 hx5) rfl ((rlL_cons (rfl) rlL_nil)) rfl rfl ?_
      refine sxk 4 tabOK rfl ?_
      refine aops_nil (at_ret ?_)
      obtain rfl := Option.some.inj hF
      refine ret_le rfl ?_
      exact (vle_refl _)
    ·refine sxk 11 tabOK rfl ?_
     refine aops_nil (at_ret ?_)
     obtain rfl := Option.some.inj hF
     refine ret_le rfl ?_
     exact (vle_refl _)
   ·refine sxk 16 tabOK rfl ?_
    refine aops_nil (at_ret ?_)
    obtain rfl := Option.some.inj hF
    refine ret_le rfl ?_
    exact (vle_refl _)

theorem s_OpName_ok (op : Int) (q : List UInt8) (hF : s_OpName op = some q) : FC Tryd.prog 40 [.int .i64 op] [] 3 (fun x _ => x = .str q) := by
 refine FC.of_le ?_
 refine fc_body tabOK Tryd.func40 rfl Tryd.ntmps40 rfl rfl rfl ?_
 unfold s_OpName at hF
 refine at_seq (at_region (sxk 1 tabOK rfl ?_))
 refine aops_nil (at_seq (at_seq (at_region (sxk 1 tabOK rfl ?_))))
 obtain ⟨x2, hx2, hF⟩ := bnd_some hF
 refine call_eq (s_l1In_ok op 1 20 x2 hx2) rfl ((rlL_cons (rfl) (rlL_cons (rfl) (rlL_cons (rfl) rlL_nil)))) rfl rfl ?_
 refine sxk 1 tabOK rfl ?_
 refine aops_nil (ct_bn hF rfl (fun hc hF => ?_) (fun hc hF => ?_))
 ·refine at_seq (at_region (sxk 1 tabOK rfl ?_))
  refine aops_nil (at_ret (tk_r ?_))
  obtain rfl := Option.some.inj hF
  refine ret_le rfl ?_
  exact (vle_refl _)
 ·refine at_skip (at_seq (at_region (sc_slit cStr (l := 0) ([([99, 111, 110, 115, 116, 97, 110, 116] : List UInt8), ([112, 114, 105, 109, 105, 116, 105, 118, 101] : List UInt8), ([108, 111, 99, 97, 108] : List UInt8), ([99, 97, 112, 116, 117, 114, 101, 100] : List UInt8), ([114, 101, 97, 100, 45, 108, 111, 99, 97, 108] : List UInt8), ([114, 101, 97, 100, 45, 98, 111, 120] : List UInt8), ([119, 114, 105, 116, 101, 45, 108, 111, 99, 97, 108] : List UInt8), ([119, 114, 105, 116, 101, 45, 98, 111, 120] : List UInt8), ([110, 101, 119, 45, 98, 111, 120] : List UInt8), ([98, 111, 120, 45, 112, 97, 114, 97, 109] : List UInt8), ([99, 108, 111, 115, 117, 114, 101] : List UInt8), ([99, 97, 108, 108] : List UInt8), ([116, 97, 105, 108, 45, 99, 97, 108, 108] : List UInt8), ([114, 101, 116, 117, 114, 110] : List UInt8), ([106, 117, 109, 112] : List UInt8), ([106, 117, 109, 112, 45, 105, 102, 45, 102, 97, 108, 115, 101] : List UInt8), ([112, 111, 112] : List UInt8), ([114, 101, 115, 101, 116] : List UInt8), ([115, 104, 105, 102, 116] : List UInt8), ([101, 110, 116, 101, 114] : List UInt8)] : List (List UInt8)) tabOK rfl rfl rfl rfl rfl rfl rfl ?_)))
  refine sxk 1 tabOK rfl ?_
  obtain ⟨hb, hF⟩ := chk_some hF
  refine s_sub tabOK rfl rfl rfl hb rfl ?_
  obtain ⟨x3, hn_x3, hF⟩ := bnd_some hF
  refine sv rfl (oc_haddr cStr hn_x3 tabOK rfl rfl rfl rfl) rfl ?_
  refine sv rfl (oc_load cStr hn_x3 tabOK rfl rfl rfl rfl) rfl ?_
  refine sxk 1 tabOK rfl ?_
  refine aops_nil (at_ret ?_)
  obtain rfl := Option.some.inj hF
  refine ret_le rfl ?_
  exact (vle_refl _)

theorem s_FormatInstr_ok (x_1 : PInstr) (q : List UInt8) (hF : s_FormatInstr x_1 = some q) : FC Tryd.prog 25 [.agg (cInstr.row 0 x_1)] [] 3 (fun x _ => x = .str q) := by
 refine FC.of_le ?_
 refine fc_body tabOK Tryd.func25 rfl Tryd.ntmps25 rfl rfl rfl ?_
 unfold s_FormatInstr at hF
 refine at_seq (at_region (sxk 2 tabOK rfl ?_))
 refine aops_nil (at_seq (at_block (at_seq (at_region (sxk 1 tabOK rfl ?_)))))
 obtain ⟨x2, hx2, hF⟩ := bnd_some hF
 refine call_eq (s_l10Instr_ok x_1 x2 hx2) rfl ((rlL_cons (cInstr.rl_agg (l := 0) (l' := 0) _ x_1 rfl) rlL_nil)) rfl rfl ?_
 refine sxk 2 tabOK rfl ?_
 refine aops_nil (ct_bn hF rfl (fun hc hF => ?_) (fun hc hF => ?_))
 ·refine at_seq (at_keep [] rfl ?_)
  refine at_region (sxk 1 tabOK rfl ?_)
  refine aops_nil (at_ret (bk_r (tk_r ?_)))
  obtain rfl := Option.some.inj hF
  refine ret_le rfl ?_
  exact (vle_refl _)
 ·refine at_seq (at_region (sxk 4 tabOK rfl ?_))
  refine aops_nil (ct_if hF rfl (fun hc hF => ?_) (fun hc hF => ?_))
  ·refine at_seq (at_keep [1] rfl ?_)
   refine at_drawnM (id := 4) 7 (by kernel_rfl) (by kernel_rfl) ?_
   refine nx tabOK rfl ?_
   refine nx tabOK rfl ?_
   obtain ⟨x3, hx3, hF⟩ := bnd_some hF
   refine n_call (s_OpName_ok x_1.op x3 hx3) rfl ((rlL_cons (rfl) rlL_nil)) rfl rfl ?_
   obtain ⟨hb, hF⟩ := chk_some hF
   refine nv rfl (ov_cat rfl rfl hb) rfl ?_
   refine nx tabOK rfl ?_
   refine nx tabOK rfl ?_
   obtain ⟨x4, hx4, hF⟩ := bnd_some hF
   refine n_call (s_l1Format_ok RF x_1.d x4 hx4) rfl ((rlL_cons (cDat.rl_agg (l := 0) (l' := 0) _ x_1.d rfl) rlL_nil)) rfl rfl ?_
   refine dn_nil rfl ?_
   obtain ⟨hb, hF⟩ := chk_some hF
   refine sv rfl (ov_cat rfl rfl hb) rfl ?_
   refine sxk 1 tabOK rfl ?_
   refine aops_nil (at_ret (bk_r (tk_r ?_)))
   obtain rfl := Option.some.inj hF
   refine ret_le rfl ?_
   exact (vle_refl _)
  ·refine at_seq (at_keep [1] rfl ?_)
   refine at_region (sxk 2 tabOK rfl ?_)
   obtain ⟨x3, hx3, hF⟩ := bnd_some hF
   refine call_eq (s_l10Plain_ok x_1.op x3 hx3) rfl ((rlL_cons (rfl) rlL_nil)) rfl rfl ?_
   refine sxk 1 tabOK rfl ?_
   refine aops_nil (ct_b hF rfl (fun hc hF => ?_) (fun hc hF => ?_))
   ·refine at_seq (at_region (sxk 2 tabOK rfl ?_))
    obtain ⟨x4, hx4, hF⟩ := bnd_some hF
    refine call_eq (s_OpName_ok x_1.op x4 hx4) rfl ((rlL_cons (rfl) rlL_nil)) rfl rfl ?_
    refine sxk 1 tabOK rfl ?_
    refine aops_nil (at_ret (bk_r (tk_r ?_)))
    obtain rfl := Option.some.inj hF
    refine ret_le rfl ?_
    exact (vle_refl _)
   ·refine at_skip (bk_n (at_seq (at_drawnM (id := 7) 7 (by kernel_rfl) (by kernel_rfl) ?_)))
    refine nx tabOK rfl ?_
    refine nx tabOK rfl ?_
    obtain ⟨x4, hx4, hF⟩ := bnd_some hF
    refine n_call (s_OpName_ok x_1.op x4 hx4) rfl ((rlL_cons (rfl) rlL_nil)) rfl rfl ?_
    obtain ⟨hb, hF⟩ := chk_some hF
    refine nv rfl (ov_cat rfl rfl hb) rfl ?_
    refine nx tabOK rfl ?_
    refine nx tabOK rfl ?_
    obtain ⟨x5, hx5, hF⟩ := bnd_some hF
    refine n_call (s_FormatNumber_ok x_1.a x5 hx5) rfl ((rlL_cons (rfl) rlL_nil)) rfl rfl ?_
    refine dn_nil rfl ?_
    obtain ⟨hb, hF⟩ := chk_some hF
    refine sv rfl (ov_cat rfl rfl hb) rfl ?_
    refine sxk 1 tabOK rfl ?_
    refine aops_nil (at_ret ?_)
    obtain rfl := Option.some.inj hF
    refine ret_le rfl ?_
    exact (vle_refl _)

theorem s_PrimitiveNames_ok (q : List (List UInt8)) (hF : s_PrimitiveNames = some q) : FC Tryd.prog 67 [] [] 3 (fun x _ => x = .psl 1 1 (q.map (cStr.enc 1))) := by
 refine FC.of_le ?_
 refine fc_body tabOK Tryd.func67 rfl Tryd.ntmps67 rfl rfl rfl ?_
 unfold s_PrimitiveNames at hF
 refine at_seq (at_region (sxk 1 tabOK rfl ?_))
 refine aops_nil (at_seq (at_region (sc_slit cStr (l := 0) ([([43] : List UInt8), ([45] : List UInt8), ([42] : List UInt8), ([61] : List UInt8), ([60] : List UInt8), ([99, 111, 110, 115] : List UInt8), ([99, 97, 114] : List UInt8), ([99, 100, 114] : List UInt8), ([110, 117, 108, 108, 63] : List UInt8), ([112, 97, 105, 114, 63] : List UInt8), ([110, 117, 109, 98, 101, 114, 63] : List UInt8), ([101, 113, 63] : List UInt8), ([110, 111, 116] : List UInt8), ([100, 105, 115, 112, 108, 97, 121] : List UInt8)] : List (List UInt8)) tabOK rfl rfl rfl rfl rfl rfl rfl ?_)))
 refine sxk 1 tabOK rfl ?_
 refine aops_nil (at_le (le_freeze 0 rfl rfl (by simp) rfl) ?_)
 refine at_ret ?_
 obtain rfl := Option.some.inj hF
 refine ret_le rfl ?_
 exact (vle_refl _)

theorem s_l10Fits_ok (m : PImage) (x_1 : Int) (x_2 : PInstr) (q : Bool) (hF : s_l10Fits m x_1 x_2 = some q) : FC Tryd.prog 53 [.agg (cImage.row 0 m), .int .i64 x_1, .agg (cInstr.row 0 x_2)] [] 3 (fun x _ => x = .bool q) := by
 refine FC.of_le ?_
 refine fc_body tabOK Tryd.func53 rfl Tryd.ntmps53 rfl rfl rfl ?_
 unfold s_l10Fits at hF
 refine at_seq (at_region (sxk 3 tabOK rfl ?_))
 refine aops_nil (at_seq (at_region (sxk 3 tabOK rfl ?_)))
 obtain ⟨x4, hn_x4, hF⟩ := bnd_some hF
 refine sv rfl (oc_addr cCode hn_x4 tabOK rfl rfl rfl rfl) rfl ?_
 refine sxk 3 tabOK rfl ?_
 refine aops_nil (at_seq (at_seq (at_keep [1, 3, 5, 7] rfl ?_)))
 refine at_region (sxk 2 tabOK rfl ?_)
 refine aops_nil (at_block (at_seq (at_region (sxk 2 tabOK rfl ?_))))
 refine aops_nil (ct_if hF rfl (fun hc hF => ?_) (fun hc hF => ?_))
 ·refine at_seq (at_keep [5] rfl ?_)
  refine at_drawnM (id := 4) 4 (by kernel_rfl) (by kernel_rfl) ?_
  refine nx tabOK rfl ?_
  refine nx tabOK rfl ?_
  obtain ⟨x5, hx5, hF⟩ := bnd_some hF
  refine n_call (s_PrimitiveNames_ok  x5 hx5) rfl (rlL_nil) (cStr.rl_psl (l := 1) (l' := 1) _ x5 rfl) rfl ?_
  refine nv rfl (oc_len cStr tabOK rfl rfl rfl) rfl ?_
  refine dn_nil rfl (sxk 2 tabOK rfl ?_)
  refine aops_nil (at_ret (bk_r (tk_r ?_)))
  obtain rfl := Option.some.inj hF
  refine ret_le rfl ?_
  exact (vle_refl _)
 ·refine at_seq (at_seq (at_region (sxk 2 tabOK rfl ?_)))
  refine aops_nil (ct_if hF rfl (fun hc hF => ?_) (fun hc hF => ?_))
  ·refine at_skip (at_true rfl (at_seq (at_keep [5, 7] rfl ?_)))
   refine at_region (sxk 6 tabOK rfl ?_)
   refine aops_nil (at_ret (bk_r (tk_r ?_)))
   obtain rfl := Option.some.inj hF
   refine ret_le rfl ?_
   exact (vle_refl _)
  ·refine at_seq (at_region (sxk 2 tabOK rfl ?_))
   refine aops_nil (ct_if hF rfl (fun hc hF => ?_) (fun hc hF => ?_))
   ·refine at_skip (at_true rfl (at_seq (at_keep [5, 7] rfl ?_)))
    refine at_region (sxk 6 tabOK rfl ?_)
    refine aops_nil (at_ret (bk_r (tk_r ?_)))
    obtain rfl := Option.some.inj hF
    refine ret_le rfl ?_
    exact (vle_refl _)
   ·refine at_region (sxk 2 tabOK rfl ?_)
    refine aops_nil (ct_if hF rfl (fun hc hF => ?_) (fun hc hF => ?_))
    ·refine at_seq (at_keep [5, 7] rfl ?_)
     refine at_region (sxk 6 tabOK rfl ?_)
     refine aops_nil (at_ret (bk_r (tk_r ?_)))
     obtain rfl := Option.some.inj hF
     refine ret_le rfl ?_
     exact (vle_refl _)
    ·refine at_seq (at_keep [1, 3, 5, 7, 14] rfl ?_)
     refine at_region (sxk 2 tabOK rfl ?_)
     refine aops_nil (ct_if hF rfl (fun hc hF => ?_) (fun hc hF => ?_))
     ·refine at_seq (at_region (sxk 6 tabOK rfl ?_))
      obtain ⟨hb, hF⟩ := chk_some hF
      refine s_sub tabOK rfl rfl rfl hb rfl ?_
      obtain ⟨x5, hx5, hF⟩ := bnd_some hF
      refine call_eq (s_l1In_ok x_2.a x4.params (x4.slots - 1) x5 hx5) rfl ((rlL_cons (rfl) (rlL_cons (rfl) (rlL_cons (rfl) rlL_nil)))) rfl rfl ?_
      refine sxk 1 tabOK rfl ?_
      refine aops_nil (at_ret (bk_r (tk_r ?_)))
      obtain rfl := Option.some.inj hF
      refine ret_le rfl ?_
      exact (vle_refl _)
     ·refine at_seq (at_region (sxk 2 tabOK rfl ?_))
      refine aops_nil (ct_if hF rfl (fun hc hF => ?_) (fun hc hF => ?_))
      ·refine at_seq (at_keep [5, 7] rfl ?_)
       refine at_region (sxk 6 tabOK rfl ?_)
       refine aops_nil (at_ret (bk_r (tk_r ?_)))
       obtain rfl := Option.some.inj hF
       refine ret_le rfl ?_
       exact (vle_refl _)
      ·refine at_seq (at_seq (at_region (sxk 2 tabOK rfl ?_)))
       refine aops_nil (ct_if hF rfl (fun hc hF => ?_) (fun hc hF => ?_))
       ·refine at_skip (at_true rfl (at_seq (at_keep [5, 7] rfl ?_)))
        refine at_region (sxk 6 tabOK rfl ?_)
        refine aops_nil (at_ret (bk_r (tk_r ?_)))
        obtain rfl := Option.some.inj hF
        refine ret_le rfl ?_
        exact (vle_refl _)
       ·refine at_seq (at_region (sxk 2 tabOK rfl ?_))
        refine aops_nil (ct_if hF rfl (fun hc hF => ?_) (fun hc hF => ?_))
        ·refine at_skip (at_true rfl (at_seq (at_keep [5, 7] rfl ?_)))
         refine at_region (sxk 6 tabOK rfl ?_)
         refine aops_nil (at_ret (bk_r (tk_r ?_)))
         obtain rfl := Option.some.inj hF
         refine ret_le rfl ?_
         exact (vle_refl _)
        ·refine at_keep [1, 3, 5, 7, 14] rfl ?_
         refine at_region (sxk 2 tabOK rfl ?_)
         refine aops_nil (ct_if hF rfl (fun hc hF => ?_) (fun hc hF => ?_))
         ·refine at_seq (at_region (sxk 6 tabOK rfl ?_))
          refine aops_nil (at_ret (bk_r (tk_r ?_)))
          obtain rfl := Option.some.inj hF
          refine ret_le rfl ?_
          exact (vle_refl _)
         ·refine at_seq (at_region (sxk 2 tabOK rfl ?_))
          refine aops_nil (ct_if hF rfl (fun hc hF => ?_) (fun hc hF => ?_))
          ·refine at_seq (at_region (sxk 5 tabOK rfl ?_))
           refine ops_if (g := 63) hF rfl (fun hc hF => ?_) (fun hc hF => ?_)
           ·refine sxk 4 tabOK rfl ?_
            obtain ⟨x5, hn_x5, hF⟩ := bnd_some hF
            refine sv rfl (oc_addr cCode hn_x5 tabOK rfl rfl rfl rfl) rfl ?_
            refine sxk 5 tabOK rfl ?_
            refine aops_nil (at_ret (bk_r (tk_r ?_)))
            obtain rfl := Option.some.inj hF
            refine ret_le rfl ?_
            exact (vle_refl _)
           ·refine sxk 10 tabOK rfl ?_
            refine aops_nil (at_ret (bk_r (tk_r ?_)))
            obtain rfl := Option.some.inj hF
            refine ret_le rfl ?_
            exact (vle_refl _)
          ·refine at_seq (at_seq (at_region (sxk 2 tabOK rfl ?_)))
           refine aops_nil (cl_midn (σ := Bool) (fun x5 => ⟨[(1, .int .i64 x_1), (3, .ptr 3 1 0 0), (5, .ptr 4 1 0 0), (14, .int .i64 x_2.op), (73, .bool x5)], [(3, ⟨2, [cImage.row 0 m]⟩), (4, ⟨6, [cInstr.row 0 x_2]⟩)], 5, 112, []⟩) (fun x5 => s_l10Fits_J1 m x_1 x_2 x5 = some q) ?_ ?_)
           ·refine ct_if hF rfl (fun hc hF => ?_) (fun hc hF => ?_)
            ·exact at_skip (arr_cut ⟨true, hF, (le_down (down_all (ee_cons rfl rfl rfl (ee_cons rfl rfl (Nat.le_of_ble_eq_true rfl) (ee_cons rfl rfl (Nat.le_of_ble_eq_true rfl) (ee_cons rfl rfl rfl (ee_cons rfl rfl rfl ee_nil))))) (he_cons rfl rfl rfl (row_one (cImage.row_ok _ rfl)) (he_cons rfl rfl rfl (row_one (cInstr.row_ok _ rfl)) he_nil)) rfl rfl rfl rfl))⟩)
            ·refine at_keep [1, 3, 5, 14] rfl ?_
             refine at_region (sxk 2 tabOK rfl ?_)
             exact aops_nil (arr_cut ⟨(decide (x_2.op = 20)), hF, (le_down (down_all (ee_cons rfl rfl rfl (ee_cons rfl rfl (Nat.le_of_ble_eq_true rfl) (ee_cons rfl rfl (Nat.le_of_ble_eq_true rfl) (ee_cons rfl rfl rfl (ee_cons rfl rfl rfl ee_nil))))) (he_cons rfl rfl rfl (row_one (cImage.row_ok _ rfl)) (he_cons rfl rfl rfl (row_one (cInstr.row_ok _ rfl)) he_nil)) rfl rfl rfl rfl))⟩)
           ·rintro x5 hF
            refine at_eq (s' := ⟨[(1, .int .i64 x_1), (3, .ptr 3 1 0 0), (5, .ptr 4 1 0 0), (14, .int .i64 x_2.op), (73, .bool x5)], [(3, ⟨2, [cImage.row 0 m]⟩), (4, ⟨6, [cInstr.row 0 x_2]⟩)], 5, 112, []⟩) rfl ?_
            replace hF : s_l10Fits_J1 m x_1 x_2 x5 = some q := hF
            unfold s_l10Fits_J1 at hF
            refine ct_b hF rfl (fun hc hF => ?_) (fun hc hF => ?_)
            ·refine at_seq (at_region (sxk 5 tabOK rfl ?_))
             refine ops_if (g := 80) hF rfl (fun hc hF => ?_) (fun hc hF => ?_)
             ·refine sxk 4 tabOK rfl ?_
              obtain ⟨x6, hn_x6, hF⟩ := bnd_some hF
              refine sv rfl (oc_addr cCode hn_x6 tabOK rfl rfl rfl rfl) rfl ?_
              refine sxk 5 tabOK rfl ?_
              refine aops_nil (at_ret (bk_r (tk_r ?_)))
              obtain rfl := Option.some.inj hF
              refine ret_le rfl ?_
              exact (vle_refl _)
             ·refine sxk 10 tabOK rfl ?_
              refine aops_nil (at_ret (bk_r (tk_r ?_)))
              obtain rfl := Option.some.inj hF
              refine ret_le rfl ?_
              exact (vle_refl _)
            ·refine at_seq (at_region (sxk 2 tabOK rfl ?_))
             refine aops_nil (ct_if hF rfl (fun hc hF => ?_) (fun hc hF => ?_))
             ·refine at_seq (at_region (sxk 5 tabOK rfl ?_))
              refine ops_if (g := 96) hF rfl (fun hc hF => ?_) (fun hc hF => ?_)
              ·refine sxk 4 tabOK rfl ?_
               obtain ⟨x6, hn_x6, hF⟩ := bnd_some hF
               refine sv rfl (oc_addr cCode hn_x6 tabOK rfl rfl rfl rfl) rfl ?_
               refine sxk 5 tabOK rfl ?_
               refine aops_nil (at_ret (bk_r (tk_r ?_)))
               obtain rfl := Option.some.inj hF
               refine ret_le rfl ?_
               exact (vle_refl _)
              ·refine sxk 10 tabOK rfl ?_
               refine aops_nil (at_ret (bk_r (tk_r ?_)))
               obtain rfl := Option.some.inj hF
               refine ret_le rfl ?_
               exact (vle_refl _)
             ·refine at_seq (at_seq (at_region (sxk 2 tabOK rfl ?_)))
              refine aops_nil (ct_if hF rfl (fun hc hF => ?_) (fun hc hF => ?_))
              ·refine at_skip (at_true rfl (at_seq (at_keep [5] rfl ?_)))
               refine at_region (sxk 4 tabOK rfl ?_)
               refine aops_nil (at_ret (bk_r (tk_r ?_)))
               obtain rfl := Option.some.inj hF
               refine ret_le rfl ?_
               exact (vle_refl _)
              ·refine at_keep [5, 14] rfl ?_
               refine at_region (sxk 2 tabOK rfl ?_)
               refine aops_nil (ct_if hF rfl (fun hc hF => ?_) (fun hc hF => ?_))
               ·refine at_seq (at_region (sxk 4 tabOK rfl ?_))
                refine aops_nil (at_ret (bk_r (tk_r ?_)))
                obtain rfl := Option.some.inj hF
                refine ret_le rfl ?_
                exact (vle_refl _)
               ·refine at_skip (bk_n (at_seq (at_region (sxk 1 tabOK rfl ?_))))
                refine aops_nil (at_ret ?_)
                obtain rfl := Option.some.inj hF
                refine ret_le rfl ?_
                exact (vle_refl _)

theorem s_l10Code_ok (m : PImage) (x_1 : Int) (q : Bool) (hF : s_l10Code m x_1 = some q) : FC Tryd.prog 36 [.agg (cImage.row 0 m), .int .i64 x_1] [] 3 (fun x _ => x = .bool q) := by
 refine FC.of_le ?_
 refine fc_body tabOK Tryd.func36 rfl Tryd.ntmps36 rfl rfl rfl ?_
 unfold s_l10Code at hF
 refine at_seq (at_region (sxk 2 tabOK rfl ?_))
 refine aops_nil (at_seq (at_region (sxk 3 tabOK rfl ?_)))
 obtain ⟨x3, hn_x3, hF⟩ := bnd_some hF
 refine sv rfl (oc_addr cCode hn_x3 tabOK rfl rfl rfl rfl) rfl ?_
 refine sxk 3 tabOK rfl ?_
 refine aops_nil (at_seq (at_seq (at_keep [1, 2, 5] rfl ?_)))
 refine at_region (sxk 2 tabOK rfl ?_)
 obtain ⟨x4, hx4, hF⟩ := bnd_some hF
 refine call_eq (s_l1In_ok x3.params 0 8 x4 hx4) rfl ((rlL_cons (rfl) (rlL_cons (rfl) (rlL_cons (rfl) rlL_nil)))) rfl rfl ?_
 refine sxk 2 tabOK rfl ?_
 refine ops_ifnb (g := 17) hF rfl (fun hc hF => ?_) (fun hc hF => ?_)
 ·refine sxk 20 tabOK rfl ?_
  refine aops_nil (at_true rfl (at_seq (at_keep [] rfl ?_)))
  refine at_region (sxk 1 tabOK rfl ?_)
  refine aops_nil (at_ret (tk_r ?_))
  obtain rfl := Option.some.inj hF
  refine ret_le rfl ?_
  exact (vle_refl _)
 ·refine sxk 4 tabOK rfl ?_
  obtain ⟨x5, hx5, hF⟩ := bnd_some hF
  refine call_eq (s_l1In_ok x3.slots x3.params 500 x5 hx5) rfl ((rlL_cons (rfl) (rlL_cons (rfl) (rlL_cons (rfl) rlL_nil)))) rfl rfl ?_
  refine sxk 3 tabOK rfl ?_
  refine ops_ifnb (g := 25) hF rfl (fun hc hF => ?_) (fun hc hF => ?_)
  ·refine sxk 12 tabOK rfl ?_
   refine aops_nil (at_true rfl (at_seq (at_keep [] rfl ?_)))
   refine at_region (sxk 1 tabOK rfl ?_)
   refine aops_nil (at_ret (tk_r ?_))
   obtain rfl := Option.some.inj hF
   refine ret_le rfl ?_
   exact (vle_refl _)
  ·refine sxk 2 tabOK rfl ?_
   obtain ⟨x6, hx6, hF⟩ := bnd_some hF
   refine call_eq (s_l1In_ok x3.captures 0 500 x6 hx6) rfl ((rlL_cons (rfl) (rlL_cons (rfl) (rlL_cons (rfl) rlL_nil)))) rfl rfl ?_
   refine sxk 3 tabOK rfl ?_
   refine ops_ifnb (g := 31) hF rfl (fun hc hF => ?_) (fun hc hF => ?_)
   ·refine sxk 6 tabOK rfl ?_
    refine aops_nil (at_true rfl (at_seq (at_keep [] rfl ?_)))
    refine at_region (sxk 1 tabOK rfl ?_)
    refine aops_nil (at_ret (tk_r ?_))
    obtain rfl := Option.some.inj hF
    refine ret_le rfl ?_
    exact (vle_refl _)
   ·refine sxk 2 tabOK rfl ?_
    refine sv rfl (oc_len cInstr tabOK rfl rfl rfl) rfl ?_
    obtain ⟨x7, hx7, hF⟩ := bnd_some hF
    refine call_eq (s_l1In_ok (x3.instrs.length : Int) 1 4000 x7 hx7) rfl ((rlL_cons (rfl) (rlL_cons (rfl) (rlL_cons (rfl) rlL_nil)))) rfl rfl ?_
    refine sxk 2 tabOK rfl ?_
    refine aops_nil (ct_bn hF rfl (fun hc hF => ?_) (fun hc hF => ?_))
    ·refine at_seq (at_keep [] rfl ?_)
     refine at_region (sxk 1 tabOK rfl ?_)
     refine aops_nil (at_ret (tk_r ?_))
     obtain rfl := Option.some.inj hF
     refine ret_le rfl ?_
     exact (vle_refl _)
    ·refine at_skip (at_seq (at_seq (at_keep [1, 2, 5] rfl ?_)))
     refine at_region (sxk 2 tabOK rfl ?_)
     refine sv rfl (oc_len cInstr tabOK rfl rfl rfl) rfl ?_
     refine sxk 1 tabOK rfl ?_
     refine aops_nil (at_block (cl_loop (σ := Int) (fun x8 => ⟨[(1, .int .i64 x_1), (2, .ptr 3 1 0 0), (39, .psl 0 6 (x3.instrs.map (cInstr.enc 0))), (40, .int .i64 (x3.instrs.length : Int)), (41, .int .i64 x8)], [(3, ⟨2, [cImage.row 0 m]⟩)], 5, 56, []⟩) (s_l10Code_L1 m x_1 x3) LF 0 hF (le_down (down_all (ee_cons rfl rfl rfl (ee_cons rfl rfl (Nat.le_of_ble_eq_true rfl) (ee_cons rfl rfl (cInstr.ok_psl _ rfl) (ee_cons rfl rfl rfl (ee_cons rfl rfl rfl ee_nil))))) (he_cons rfl rfl rfl (row_one (cImage.row_ok _ rfl)) he_nil) rfl rfl rfl rfl)) ?_))
     rintro lk_ x8 hF
     refine at_eq (s' := ⟨[(1, .int .i64 x_1), (2, .ptr 3 1 0 0), (39, .psl 0 6 (x3.instrs.map (cInstr.enc 0))), (40, .int .i64 (x3.instrs.length : Int)), (41, .int .i64 x8)], [(3, ⟨2, [cImage.row 0 m]⟩)], 5, 56, []⟩) rfl ?_
     replace hF : s_l10Code_L1b m x_1 x3 (itr (s_l10Code_L1 m x_1 x3) lk_) x8 = some q := hF
     unfold s_l10Code_L1b at hF
     generalize itr (s_l10Code_L1 m x_1 x3) lk_ = go9 at hF ⊢
     refine at_seq (at_region (sxk 1 tabOK rfl ?_))
     refine aops_nil (at_seq (ct_if hF rfl (fun hc hF => ?_) (fun hc hF => ?_)))
     ·refine at_skip (at_seq (at_block (at_seq (at_region ?_))))
      obtain ⟨x10, hn_x10, hF⟩ := bnd_some hF
      refine sv rfl (oc_addr cInstr hn_x10 tabOK rfl rfl rfl rfl) rfl ?_
      refine sxk 3 tabOK rfl ?_
      refine aops_nil (at_seq (at_region (sxk 1 tabOK rfl ?_)))
      obtain ⟨x11, hx11, hF⟩ := bnd_some hF
      refine call_eq (s_l10Instr_ok x10 x11 hx11) rfl ((rlL_cons (cInstr.rl_agg (l := 0) (l' := 0) _ x10 rfl) rlL_nil)) rfl rfl ?_
      refine sxk 2 tabOK rfl ?_
      refine ops_ifnb (g := 48) hF rfl (fun hc hF => ?_) (fun hc hF => ?_)
      ·refine sxk 6 tabOK rfl ?_
       refine aops_nil (at_true rfl (at_seq (at_keep [] rfl ?_)))
       refine at_region (sxk 1 tabOK rfl ?_)
       refine aops_nil (at_ret (bk_r (tk_r (ll_r (bk_r (tk_r ?_))))))
       obtain rfl := Option.some.inj hF
       refine ret_le rfl ?_
       exact (vle_refl _)
      ·refine sxk 3 tabOK rfl ?_
       obtain ⟨x12, hx12, hF⟩ := bnd_some hF
       refine call_eq (s_l10Fits_ok m x_1 x10 x12 hx12) rfl ((rlL_cons (cImage.rl_agg (l := 0) (l' := 0) _ m rfl) (rlL_cons (rfl) (rlL_cons (cInstr.rl_agg (l := 0) (l' := 0) _ x10 rfl) rlL_nil)))) rfl rfl ?_
       refine sxk 2 tabOK rfl ?_
       refine aops_nil (ct_bn hF rfl (fun hc hF => ?_) (fun hc hF => ?_))
       ·refine at_seq (at_keep [] rfl ?_)
        refine at_region (sxk 1 tabOK rfl ?_)
        refine aops_nil (at_ret (bk_r (tk_r (ll_r (bk_r (tk_r ?_))))))
        obtain rfl := Option.some.inj hF
        refine ret_le rfl ?_
        exact (vle_refl _)
       ·refine at_skip (bk_n (at_keep [1, 2, 39, 40, 41, 49, 50, 51, 52, 53] rfl ?_))
        refine at_region ?_
        obtain ⟨hb, hF⟩ := chk_some hF
        refine s_add tabOK rfl rfl rfl hb rfl ?_
        refine sxk 1 tabOK rfl ?_
        exact aops_nil (arr_loop ⟨(x8 + 1), hF, (le_down (down_all (ee_cons rfl rfl rfl (ee_cons rfl rfl (Nat.le_of_ble_eq_true rfl) (ee_cons rfl rfl (cInstr.ok_psl _ rfl) (ee_cons rfl rfl rfl (ee_cons rfl rfl rfl ee_nil))))) (he_cons rfl rfl rfl (row_one (cImage.row_ok _ rfl)) he_nil) rfl rfl rfl rfl))⟩)
     ·refine at_exit (tk_x (ll_x (bk_hit (at_seq (at_region (sxk 1 tabOK rfl ?_))))))
      refine aops_nil (at_ret ?_)
      obtain rfl := Option.some.inj hF
      refine ret_le rfl ?_
      exact (vle_refl _)

theorem s_l10Effect_ok (m : PImage) (x_1 : PInstr) (q : Int × Int) (hF : s_l10Effect m x_1 = some q) : FC Tryd.prog 54 [.agg (cImage.row 0 m), .agg (cInstr.row 0 x_1)] [] 3 (fun x _ => x = .tup [.int .i64 q.1, .int .i64 q.2]) := by
 refine FC.of_le ?_
 refine fc_body tabOK Tryd.func54 rfl Tryd.ntmps54 rfl rfl rfl ?_
 unfold s_l10Effect at hF
 refine at_seq (at_region (sxk 4 tabOK rfl ?_))
 refine aops_nil (at_seq (at_seq (at_region (sxk 2 tabOK rfl ?_))))
 refine aops_nil (at_block (at_seq (at_seq (at_region (sxk 2 tabOK rfl ?_)))))
 refine aops_nil (ct_if hF rfl (fun hc hF => ?_) (fun hc hF => ?_))
 ·refine at_skip (at_true rfl (at_seq (at_keep [] rfl ?_)))
  refine at_region (sxk 2 tabOK rfl ?_)
  refine aops_nil (at_ret (bk_r (tk_r ?_)))
  obtain rfl := Option.some.inj hF
  refine ret_le rfl ?_
  exact (vle_tup (.cons (vle_refl _) (.cons (vle_refl _) .nil)))
 ·refine at_seq (at_keep [2, 3, 7] rfl ?_)
  refine at_region (sxk 2 tabOK rfl ?_)
  refine aops_nil (ct_if hF rfl (fun hc hF => ?_) (fun hc hF => ?_))
  ·refine at_skip (at_true rfl (at_seq (at_region (sxk 2 tabOK rfl ?_))))
   refine aops_nil (at_ret (bk_r (tk_r ?_)))
   obtain rfl := Option.some.inj hF
   refine ret_le rfl ?_
   exact (vle_tup (.cons (vle_refl _) (.cons (vle_refl _) .nil)))
  ·refine at_seq (at_region (sxk 2 tabOK rfl ?_))
   refine aops_nil (ct_if hF rfl (fun hc hF => ?_) (fun hc hF => ?_))
   ·refine at_skip (at_true rfl (at_seq (at_region (sxk 2 tabOK rfl ?_))))
    refine aops_nil (at_ret (bk_r (tk_r ?_)))
    obtain rfl := Option.some.inj hF
    refine ret_le rfl ?_
    exact (vle_tup (.cons (vle_refl _) (.cons (vle_refl _) .nil)))
   ·refine at_seq (at_region (sxk 2 tabOK rfl ?_))
    refine aops_nil (ct_if hF rfl (fun hc hF => ?_) (fun hc hF => ?_))
    ·refine at_skip (at_true rfl (at_seq (at_keep [] rfl ?_)))
     refine at_region (sxk 2 tabOK rfl ?_)
     refine aops_nil (at_ret (bk_r (tk_r ?_)))
     obtain rfl := Option.some.inj hF
     refine ret_le rfl ?_
     exact (vle_tup (.cons (vle_refl _) (.cons (vle_refl _) .nil)))
    ·refine at_seq (at_region (sxk 2 tabOK rfl ?_))
     refine aops_nil (ct_if hF rfl (fun hc hF => ?_) (fun hc hF => ?_))
     ·refine at_skip (at_true rfl (at_seq (at_keep [] rfl ?_)))
      refine at_region (sxk 2 tabOK rfl ?_)
      refine aops_nil (at_ret (bk_r (tk_r ?_)))
      obtain rfl := Option.some.inj hF
      refine ret_le rfl ?_
      exact (vle_tup (.cons (vle_refl _) (.cons (vle_refl _) .nil)))
     ·refine at_region (sxk 2 tabOK rfl ?_)
      refine aops_nil (ct_if hF rfl (fun hc hF => ?_) (fun hc hF => ?_))
      ·refine at_seq (at_keep [] rfl ?_)
       refine at_region (sxk 2 tabOK rfl ?_)
       refine aops_nil (at_ret (bk_r (tk_r ?_)))
       obtain rfl := Option.some.inj hF
       refine ret_le rfl ?_
       exact (vle_tup (.cons (vle_refl _) (.cons (vle_refl _) .nil)))
      ·refine at_seq (at_seq (at_region (sxk 2 tabOK rfl ?_)))
       refine aops_nil (ct_if hF rfl (fun hc hF => ?_) (fun hc hF => ?_))
       ·refine at_skip (at_true rfl (at_seq (at_keep [] rfl ?_)))
        refine at_region (sxk 2 tabOK rfl ?_)
        refine aops_nil (at_ret (bk_r (tk_r ?_)))
        obtain rfl := Option.some.inj hF
        refine ret_le rfl ?_
        exact (vle_tup (.cons (vle_refl _) (.cons (vle_refl _) .nil)))
       ·refine at_keep [2, 3, 7] rfl ?_
        refine at_region (sxk 2 tabOK rfl ?_)
        refine aops_nil (ct_if hF rfl (fun hc hF => ?_) (fun hc hF => ?_))
        ·refine at_seq (at_region (sxk 2 tabOK rfl ?_))
         refine aops_nil (at_ret (bk_r (tk_r ?_)))
         obtain rfl := Option.some.inj hF
         refine ret_le rfl ?_
         exact (vle_tup (.cons (vle_refl _) (.cons (vle_refl _) .nil)))
        ·refine at_seq (at_seq (at_region (sxk 2 tabOK rfl ?_)))
         refine aops_nil (ct_if hF rfl (fun hc hF => ?_) (fun hc hF => ?_))
         ·refine at_skip (at_true rfl (at_seq (at_region (sxk 4 tabOK rfl ?_))))
          obtain ⟨x3, hn_x3, hF⟩ := bnd_some hF
          refine sv rfl (oc_addr cCode hn_x3 tabOK rfl rfl rfl rfl) rfl ?_
          refine sxk 4 tabOK rfl ?_
          refine aops_nil (at_ret (bk_r (tk_r ?_)))
          obtain rfl := Option.some.inj hF
          refine ret_le rfl ?_
          exact (vle_tup (.cons (vle_refl _) (.cons (vle_refl _) .nil)))
         ·refine at_seq (at_region (sxk 2 tabOK rfl ?_))
          refine aops_nil (ct_if hF rfl (fun hc hF => ?_) (fun hc hF => ?_))
          ·refine at_skip (at_true rfl (at_seq (at_region (sxk 4 tabOK rfl ?_))))
           obtain ⟨x3, hn_x3, hF⟩ := bnd_some hF
           refine sv rfl (oc_addr cCode hn_x3 tabOK rfl rfl rfl rfl) rfl ?_
           refine sxk 4 tabOK rfl ?_
           refine aops_nil (at_ret (bk_r (tk_r ?_)))
           obtain rfl := Option.some.inj hF
           refine ret_le rfl ?_
           exact (vle_tup (.cons (vle_refl _) (.cons (vle_refl _) .nil)))
          ·refine at_seq (at_region (sxk 2 tabOK rfl ?_))
           refine aops_nil (ct_if hF rfl (fun hc hF => ?_) (fun hc hF => ?_))
           ·refine at_skip (at_true rfl (at_seq (at_keep [2, 3] rfl ?_)))
            refine at_region (sxk 4 tabOK rfl ?_)
            obtain ⟨x3, hn_x3, hF⟩ := bnd_some hF
            refine sv rfl (oc_addr cCode hn_x3 tabOK rfl rfl rfl rfl) rfl ?_
            refine sxk 4 tabOK rfl ?_
            refine aops_nil (at_ret (bk_r (tk_r ?_)))
            obtain rfl := Option.some.inj hF
            refine ret_le rfl ?_
            exact (vle_tup (.cons (vle_refl _) (.cons (vle_refl _) .nil)))
           ·refine at_region (sxk 2 tabOK rfl ?_)
            refine aops_nil (ct_if hF rfl (fun hc hF => ?_) (fun hc hF => ?_))
            ·refine at_seq (at_keep [2, 3] rfl ?_)
             refine at_region (sxk 4 tabOK rfl ?_)
             obtain ⟨x3, hn_x3, hF⟩ := bnd_some hF
             refine sv rfl (oc_addr cCode hn_x3 tabOK rfl rfl rfl rfl) rfl ?_
             refine sxk 4 tabOK rfl ?_
             refine aops_nil (at_ret (bk_r (tk_r ?_)))
             obtain rfl := Option.some.inj hF
             refine ret_le rfl ?_
             exact (vle_tup (.cons (vle_refl _) (.cons (vle_refl _) .nil)))
            ·refine at_seq (at_keep [3, 7] rfl ?_)
             refine at_region (sxk 2 tabOK rfl ?_)
             refine aops_nil (ct_if hF rfl (fun hc hF => ?_) (fun hc hF => ?_))
             ·refine at_seq (at_region (sxk 2 tabOK rfl ?_))
              obtain ⟨hb, hF⟩ := chk_some hF
              refine s_add tabOK rfl rfl rfl hb rfl ?_
              refine sxk 2 tabOK rfl ?_
              refine aops_nil (at_ret (bk_r (tk_r ?_)))
              obtain rfl := Option.some.inj hF
              refine ret_le rfl ?_
              exact (vle_tup (.cons (vle_refl _) (.cons (vle_refl _) .nil)))
             ·refine at_seq (at_region (sxk 2 tabOK rfl ?_))
              refine aops_nil (ct_if hF rfl (fun hc hF => ?_) (fun hc hF => ?_))
              ·refine at_seq (at_region (sxk 2 tabOK rfl ?_))
               obtain ⟨hb, hF⟩ := chk_some hF
               refine s_add tabOK rfl rfl rfl hb rfl ?_
               refine sxk 2 tabOK rfl ?_
               refine aops_nil (at_ret (bk_r (tk_r ?_)))
               obtain rfl := Option.some.inj hF
               refine ret_le rfl ?_
               exact (vle_tup (.cons (vle_refl _) (.cons (vle_refl _) .nil)))
              ·refine at_seq (at_seq (at_region (sxk 2 tabOK rfl ?_)))
               refine aops_nil (ct_if hF rfl (fun hc hF => ?_) (fun hc hF => ?_))
               ·refine at_skip (at_true rfl (at_seq (at_keep [] rfl ?_)))
                refine at_region (sxk 2 tabOK rfl ?_)
                refine aops_nil (at_ret (bk_r (tk_r ?_)))
                obtain rfl := Option.some.inj hF
                refine ret_le rfl ?_
                exact (vle_tup (.cons (vle_refl _) (.cons (vle_refl _) .nil)))
               ·refine at_seq (at_keep [7] rfl ?_)
                refine at_region (sxk 2 tabOK rfl ?_)
                refine aops_nil (ct_if hF rfl (fun hc hF => ?_) (fun hc hF => ?_))
                ·refine at_skip (at_true rfl (at_seq (at_region (sxk 2 tabOK rfl ?_))))
                 refine aops_nil (at_ret (bk_r (tk_r ?_)))
                 obtain rfl := Option.some.inj hF
                 refine ret_le rfl ?_
                 exact (vle_tup (.cons (vle_refl _) (.cons (vle_refl _) .nil)))
                ·refine at_region (sxk 2 tabOK rfl ?_)
                 refine aops_nil (ct_if hF rfl (fun hc hF => ?_) (fun hc hF => ?_))
                 ·refine at_seq (at_region (sxk 2 tabOK rfl ?_))
                  refine aops_nil (at_ret (bk_r (tk_r ?_)))
                  obtain rfl := Option.some.inj hF
                  refine ret_le rfl ?_
                  exact (vle_tup (.cons (vle_refl _) (.cons (vle_refl _) .nil)))
                 ·refine at_skip (bk_n (at_seq (at_region (sxk 2 tabOK rfl ?_))))
                  refine aops_nil (at_ret ?_)
                  obtain rfl := Option.some.inj hF
                  refine ret_le rfl ?_
                  exact (vle_tup (.cons (vle_refl _) (.cons (vle_refl _) .nil)))

theorem s_l10Depths_ok (m : PImage) (x_1 : Int) (q : List Int × Bool) (hF : s_l10Depths m x_1 = some q) : FC Tryd.prog 37 [.agg (cImage.row 0 m), .int .i64 x_1] [] 3 (fun x _ => x = .tup [.psl 1 1 (q.1.map (cInt.enc 1)), .bool q.2]) := by
 refine FC.of_le ?_
 refine fc_body tabOK Tryd.func37 rfl Tryd.ntmps37 rfl rfl rfl ?_
 unfold s_l10Depths at hF
 refine at_seq (at_region (sxk 3 tabOK rfl ?_))
 refine aops_nil (at_seq (at_region (sxk 3 tabOK rfl ?_)))
 obtain ⟨x3, hn_x3, hF⟩ := bnd_some hF
 refine sv rfl (oc_addr cCode hn_x3 tabOK rfl rfl rfl rfl) rfl ?_
 refine sxk 3 tabOK rfl ?_
 refine aops_nil (at_seq (at_keep [2, 6] rfl ?_))
 refine at_region (sxk 1 tabOK rfl ?_)
 refine sv rfl (oc_len cInstr tabOK rfl rfl rfl) rfl ?_
 obtain ⟨hb, hF⟩ := chk_some hF
 refine sc_make cInt (l := 0) (v := (0 : Int)) hb tabOK rfl rfl rfl rfl (vleL_refl _) rfl rfl rfl rfl ?_
 refine sxk 1 tabOK rfl ?_
 refine aops_nil (at_seq (at_seq (at_region (sxk 1 tabOK rfl ?_))))
 refine sv rfl (oc_hlen cInt tabOK rfl rfl rfl) rfl ?_
 refine sxk 1 tabOK rfl ?_
 refine aops_nil (at_block (cl_loop (σ := Int × List Int) (fun v => match v with | (x4, depths5) => ⟨[(2, .ptr 3 1 0 0), (6, .psl 0 6 (x3.instrs.map (cInstr.enc 0))), (7, .hsl 4 0 depths5.length), (27, .int .i64 ((List.replicate (x3.instrs.length : Int).toNat (0 : Int)).length : Int)), (28, .int .i64 x4)], [(3, ⟨2, [cImage.row 0 m]⟩), (4, ⟨1, depths5.map (cInt.enc 0)⟩)], 5, 151, []⟩) (s_l10Depths_L1 m x3) LF (0, (List.replicate (x3.instrs.length : Int).toNat (0 : Int))) hF (le_down (down_all (ee_cons rfl rfl (Nat.le_of_ble_eq_true rfl) (ee_cons rfl rfl (cInstr.ok_psl _ rfl) (ee_cons rfl rfl (Nat.le_of_ble_eq_true rfl) (ee_cons rfl rfl rfl (ee_cons rfl rfl rfl ee_nil))))) (he_cons rfl rfl rfl (row_one (cImage.row_ok _ rfl)) (he_cons rfl rfl rfl (cInt.rows_ok _ rfl) he_nil)) rfl rfl rfl rfl)) ?_))
 rintro lk_ ⟨x4, depths5⟩ hF
 refine at_eq (s' := ⟨[(2, .ptr 3 1 0 0), (6, .psl 0 6 (x3.instrs.map (cInstr.enc 0))), (7, .hsl 4 0 depths5.length), (27, .int .i64 ((List.replicate (x3.instrs.length : Int).toNat (0 : Int)).length : Int)), (28, .int .i64 x4)], [(3, ⟨2, [cImage.row 0 m]⟩), (4, ⟨1, depths5.map (cInt.enc 0)⟩)], 5, 151, []⟩) rfl ?_
 replace hF : s_l10Depths_L1b m x3 (itr (s_l10Depths_L1 m x3) lk_) x4 depths5 = some q := hF
 unfold s_l10Depths_L1b at hF
 generalize itr (s_l10Depths_L1 m x3) lk_ = go6 at hF ⊢
 refine at_seq (at_region (sxk 1 tabOK rfl ?_))
 refine aops_nil (at_seq (ct_if hF rfl (fun hc hF => ?_) (fun hc hF => ?_)))
 ·refine at_skip (at_seq (at_block (at_seq (at_region (sxk 2 tabOK rfl ?_)))))
  refine aops_nil (at_region (sxk 2 tabOK rfl ?_))
  obtain ⟨x7, hn_x7, hF⟩ := bnd_some hF
  refine sv rfl (oc_haddr cInt hn_x7 tabOK rfl rfl rfl rfl) rfl ?_
  refine sc_store cInt (v' := (-1)) hn_x7 tabOK rfl rfl rfl rfl rfl rfl rfl rfl ?_
  refine ops_le (le_slot (y := .hsl 4 0 (depths5.set x4.toNat (-1)).length) 7 rfl (vle_eq (congrArg (V.hsl 4 0) (by simp))) rfl) ?_
  refine aops_nil (bk_n (at_region ?_))
  obtain ⟨hb, hF⟩ := chk_some hF
  refine s_add tabOK rfl rfl rfl hb rfl ?_
  refine sxk 1 tabOK rfl ?_
  exact aops_nil (arr_loop ⟨((x4 + 1), (depths5.set x4.toNat (-1))), hF, (le_down (down_all (ee_cons rfl rfl (Nat.le_of_ble_eq_true rfl) (ee_cons rfl rfl (cInstr.ok_psl _ rfl) (ee_cons rfl rfl (Nat.le_of_ble_eq_true rfl) (ee_cons rfl rfl rfl (ee_cons rfl rfl rfl ee_nil))))) (he_cons rfl rfl rfl (row_one (cImage.row_ok _ rfl)) (he_cons rfl rfl rfl (cInt.rows_ok _ rfl) he_nil)) rfl rfl rfl rfl))⟩)
 ·refine at_exit (tk_x (ll_x (bk_hit (at_seq (at_seq (at_region (sxk 1 tabOK rfl ?_)))))))
  refine sv rfl (oc_len cInstr tabOK rfl rfl rfl) rfl ?_
  refine sxk 1 tabOK rfl ?_
  refine aops_nil (ct_if hF rfl (fun hc hF => ?_) (fun hc hF => ?_))
  ·refine at_seq (at_keep [] rfl ?_)
   refine at_region (sxk 2 tabOK rfl ?_)
   refine aops_nil (at_ret (tk_r ?_))
   obtain rfl := Option.some.inj hF
   refine ret_le rfl ?_
   exact (vle_tup (.cons (vle_nil _ _) (.cons (vle_refl _) .nil)))
  ·refine at_skip (at_seq (at_region (sxk 1 tabOK rfl ?_)))
   obtain ⟨x7, hn_x7, hF⟩ := bnd_some hF
   refine sv rfl (oc_haddr cInt hn_x7 tabOK rfl rfl rfl rfl) rfl ?_
   refine sc_store cInt (v' := 0) hn_x7 tabOK rfl rfl rfl rfl rfl rfl rfl rfl ?_
   refine ops_le (le_slot (y := .hsl 4 0 (depths5.set (0 : Int).toNat 0).length) 7 rfl (vle_eq (congrArg (V.hsl 4 0) (by simp))) rfl) ?_
   refine aops_nil (at_seq (at_seq (at_keep [2, 6, 7] rfl ?_)))
   refine at_region (sxk 1 tabOK rfl ?_)
   refine sv rfl (oc_len cInstr tabOK rfl rfl rfl) rfl ?_
   refine sxk 1 tabOK rfl ?_
   refine aops_nil (at_block (cl_loop (σ := Int × List Int) (fun v => match v with | (x8, depths9) => ⟨[(2, .ptr 3 1 0 0), (6, .psl 0 6 (x3.instrs.map (cInstr.enc 0))), (7, .hsl 4 0 depths9.length), (40, .psl 0 6 (x3.instrs.map (cInstr.enc 0))), (41, .int .i64 (x3.instrs.length : Int)), (42, .int .i64 x8)], [(3, ⟨2, [cImage.row 0 m]⟩), (4, ⟨1, depths9.map (cInt.enc 0)⟩)], 5, 151, []⟩) (s_l10Depths_L2 m x3) LF (0, (depths5.set (0 : Int).toNat 0)) hF (le_down (down_all (ee_cons rfl rfl (Nat.le_of_ble_eq_true rfl) (ee_cons rfl rfl (cInstr.ok_psl _ rfl) (ee_cons rfl rfl (Nat.le_of_ble_eq_true rfl) (ee_cons rfl rfl (cInstr.ok_psl _ rfl) (ee_cons rfl rfl rfl (ee_cons rfl rfl rfl ee_nil)))))) (he_cons rfl rfl rfl (row_one (cImage.row_ok _ rfl)) (he_cons rfl rfl rfl (cInt.rows_ok _ rfl) he_nil)) rfl rfl rfl rfl)) ?_))
   rintro lk_ ⟨x8, depths9⟩ hF
   refine at_eq (s' := ⟨[(2, .ptr 3 1 0 0), (6, .psl 0 6 (x3.instrs.map (cInstr.enc 0))), (7, .hsl 4 0 depths9.length), (40, .psl 0 6 (x3.instrs.map (cInstr.enc 0))), (41, .int .i64 (x3.instrs.length : Int)), (42, .int .i64 x8)], [(3, ⟨2, [cImage.row 0 m]⟩), (4, ⟨1, depths9.map (cInt.enc 0)⟩)], 5, 151, []⟩) rfl ?_
   replace hF : s_l10Depths_L2b m x3 (itr (s_l10Depths_L2 m x3) lk_) x8 depths9 = some q := hF
   unfold s_l10Depths_L2b at hF
   generalize itr (s_l10Depths_L2 m x3) lk_ = go10 at hF ⊢
   refine at_seq (at_region (sxk 1 tabOK rfl ?_))
   refine aops_nil (at_seq (ct_if hF rfl (fun hc hF => ?_) (fun hc hF => ?_)))
   ·refine at_skip (at_seq (cl_midn (σ := List Int) (fun depths11 => ⟨[(2, .ptr 3 1 0 0), (6, .psl 0 6 (x3.instrs.map (cInstr.enc 0))), (7, .hsl 4 0 depths11.length), (40, .psl 0 6 (x3.instrs.map (cInstr.enc 0))), (41, .int .i64 (x3.instrs.length : Int)), (42, .int .i64 x8)], [(3, ⟨2, [cImage.row 0 m]⟩), (4, ⟨1, depths11.map (cInt.enc 0)⟩)], 5, 151, []⟩) (fun depths11 => s_l10Depths_J3 x8 go10 depths11 = some q) ?_ ?_))
    ·refine at_block (at_seq (at_region (sxk 1 tabOK rfl ?_)))
     obtain ⟨x11, hn_x11, hF⟩ := bnd_some hF
     refine sv rfl (oc_addr cInstr hn_x11 tabOK rfl rfl rfl rfl) rfl ?_
     refine sxk 4 tabOK rfl ?_
     refine aops_nil (at_seq (at_seq (at_region (sxk 2 tabOK rfl ?_))))
     obtain ⟨x12, hn_x12, hF⟩ := bnd_some hF
     refine sv rfl (oc_haddr cInt hn_x12 tabOK rfl rfl rfl rfl) rfl ?_
     refine sv rfl (oc_load cInt hn_x12 tabOK rfl rfl rfl rfl) rfl ?_
     refine sxk 1 tabOK rfl ?_
     refine aops_nil (ct_if hF rfl (fun hc hF => ?_) (fun hc hF => ?_))
     ·exact at_exit (tk_x (bk_hit (arr_cut ⟨depths9, hF, (le_down (down_all (ee_cons rfl rfl (Nat.le_of_ble_eq_true rfl) (ee_cons rfl rfl (cInstr.ok_psl _ rfl) (ee_cons rfl rfl (Nat.le_of_ble_eq_true rfl) (ee_cons rfl rfl (cInstr.ok_psl _ rfl) (ee_cons rfl rfl rfl (ee_cons rfl rfl rfl ee_nil)))))) (he_cons rfl rfl rfl (row_one (cImage.row_ok _ rfl)) (he_cons rfl rfl rfl (cInt.rows_ok _ rfl) he_nil)) rfl rfl rfl rfl))⟩)))
     ·refine at_skip (at_seq (at_keep [2, 6, 7, 9, 10, 40, 41, 42] rfl ?_))
      refine at_region (sxk 2 tabOK rfl ?_)
      obtain ⟨x13, hx13, hF⟩ := bnd_some hF
      refine call_eq (s_l10Effect_ok m x11 x13 hx13) rfl ((rlL_cons (cImage.rl_agg (l := 0) (l' := 0) _ m rfl) (rlL_cons (cInstr.rl_agg (l := 0) (l' := 0) _ x11 rfl) rlL_nil))) (rl_tupL (rlL_cons (rfl) (rlL_cons (rfl) rlL_nil))) rfl ?_
      refine sxk 5 tabOK rfl ?_
      refine aops_nil (at_seq (at_region (sxk 2 tabOK rfl ?_)))
      obtain ⟨x14, hn_x14, hF⟩ := bnd_some hF
      refine sv rfl (oc_haddr cInt hn_x14 tabOK rfl rfl rfl rfl) rfl ?_
      refine sv rfl (oc_load cInt hn_x14 tabOK rfl rfl rfl rfl) rfl ?_
      refine sxk 1 tabOK rfl ?_
      obtain ⟨hb, hF⟩ := chk_some hF
      refine s_sub tabOK rfl rfl rfl hb rfl ?_
      refine sxk 1 tabOK rfl ?_
      refine aops_nil (at_seq (at_seq (cl_midn (σ := Bool) (fun x15 => ⟨[(2, .ptr 3 1 0 0), (6, .psl 0 6 (x3.instrs.map (cInstr.enc 0))), (7, .hsl 4 0 depths9.length), (9, .int .i64 x8), (10, .ptr 5 1 0 0), (12, .int .i64 x13.2), (13, .int .i64 (x14 - x13.1)), (40, .psl 0 6 (x3.instrs.map (cInstr.enc 0))), (41, .int .i64 (x3.instrs.length : Int)), (42, .int .i64 x8), (89, .bool x15)], [(3, ⟨2, [cImage.row 0 m]⟩), (4, ⟨1, depths9.map (cInt.enc 0)⟩), (5, ⟨6, [cInstr.row 0 x11]⟩)], 6, 151, []⟩) (fun x15 => s_l10Depths_J4 x3 x8 depths9 go10 x11 x13 x14 x15 = some q) ?_ ?_)))
      ·refine at_keep [2, 6, 7, 9, 10, 12, 13, 40, 41, 42] rfl ?_
       refine at_region (sxk 3 tabOK rfl ?_)
       refine ops_if (g := 66) hF rfl (fun hc hF => ?_) (fun hc hF => ?_)
       ·refine sxk 23 tabOK rfl ?_
        exact aops_nil (arr_cut ⟨true, hF, (le_down (down_all (ee_cons rfl rfl (Nat.le_of_ble_eq_true rfl) (ee_cons rfl rfl (cInstr.ok_psl _ rfl) (ee_cons rfl rfl (Nat.le_of_ble_eq_true rfl) (ee_cons rfl rfl rfl (ee_cons rfl rfl (Nat.le_of_ble_eq_true rfl) (ee_cons rfl rfl rfl (ee_cons rfl rfl rfl (ee_cons rfl rfl (cInstr.ok_psl _ rfl) (ee_cons rfl rfl rfl (ee_cons rfl rfl rfl (ee_cons rfl rfl rfl ee_nil))))))))))) (he_cons rfl rfl rfl (row_one (cImage.row_ok _ rfl)) (he_cons rfl rfl rfl (cInt.rows_ok _ rfl) (he_cons rfl rfl rfl (row_one (cInstr.row_ok _ rfl)) he_nil))) rfl rfl rfl rfl))⟩)
       ·refine sxk 2 tabOK rfl ?_
        obtain ⟨hb, hF⟩ := chk_some hF
        refine s_add tabOK rfl rfl rfl hb rfl ?_
        refine sxk 3 tabOK rfl ?_
        refine ops_if (g := 72) hF rfl (fun hc hF => ?_) (fun hc hF => ?_)
        ·refine sxk 17 tabOK rfl ?_
         exact aops_nil (arr_cut ⟨true, hF, (le_down (down_all (ee_cons rfl rfl (Nat.le_of_ble_eq_true rfl) (ee_cons rfl rfl (cInstr.ok_psl _ rfl) (ee_cons rfl rfl (Nat.le_of_ble_eq_true rfl) (ee_cons rfl rfl rfl (ee_cons rfl rfl (Nat.le_of_ble_eq_true rfl) (ee_cons rfl rfl rfl (ee_cons rfl rfl rfl (ee_cons rfl rfl (cInstr.ok_psl _ rfl) (ee_cons rfl rfl rfl (ee_cons rfl rfl rfl (ee_cons rfl rfl rfl ee_nil))))))))))) (he_cons rfl rfl rfl (row_one (cImage.row_ok _ rfl)) (he_cons rfl rfl rfl (cInt.rows_ok _ rfl) (he_cons rfl rfl rfl (row_one (cInstr.row_ok _ rfl)) he_nil))) rfl rfl rfl rfl))⟩)
        ·refine sxk 4 tabOK rfl ?_
         refine ops_if (g := 76) hF rfl (fun hc hF => ?_) (fun hc hF => ?_)
         ·refine sxk 5 tabOK rfl ?_
          refine ops_ifn (g := 81) hF rfl (fun hc hF => ?_) (fun hc hF => ?_)
          ·refine sxk 8 tabOK rfl ?_
           exact aops_nil (arr_cut ⟨true, hF, (le_down (down_all (ee_cons rfl rfl (Nat.le_of_ble_eq_true rfl) (ee_cons rfl rfl (cInstr.ok_psl _ rfl) (ee_cons rfl rfl (Nat.le_of_ble_eq_true rfl) (ee_cons rfl rfl rfl (ee_cons rfl rfl (Nat.le_of_ble_eq_true rfl) (ee_cons rfl rfl rfl (ee_cons rfl rfl rfl (ee_cons rfl rfl (cInstr.ok_psl _ rfl) (ee_cons rfl rfl rfl (ee_cons rfl rfl rfl (ee_cons rfl rfl rfl ee_nil))))))))))) (he_cons rfl rfl rfl (row_one (cImage.row_ok _ rfl)) (he_cons rfl rfl rfl (cInt.rows_ok _ rfl) (he_cons rfl rfl rfl (row_one (cInstr.row_ok _ rfl)) he_nil))) rfl rfl rfl rfl))⟩)
          ·refine sxk 4 tabOK rfl ?_
           refine ops_if (g := 85) hF rfl (fun hc hF => ?_) (fun hc hF => ?_)
           ·refine sxk 4 tabOK rfl ?_
            exact aops_nil (arr_cut ⟨(!decide ((x14 - x13.1) = 0)), hF, (le_down (down_all (ee_cons rfl rfl (Nat.le_of_ble_eq_true rfl) (ee_cons rfl rfl (cInstr.ok_psl _ rfl) (ee_cons rfl rfl (Nat.le_of_ble_eq_true rfl) (ee_cons rfl rfl rfl (ee_cons rfl rfl (Nat.le_of_ble_eq_true rfl) (ee_cons rfl rfl rfl (ee_cons rfl rfl rfl (ee_cons rfl rfl (cInstr.ok_psl _ rfl) (ee_cons rfl rfl rfl (ee_cons rfl rfl rfl (ee_cons rfl rfl rfl ee_nil))))))))))) (he_cons rfl rfl rfl (row_one (cImage.row_ok _ rfl)) (he_cons rfl rfl rfl (cInt.rows_ok _ rfl) (he_cons rfl rfl rfl (row_one (cInstr.row_ok _ rfl)) he_nil))) rfl rfl rfl rfl))⟩)
           ·refine sxk 4 tabOK rfl ?_
            exact aops_nil (arr_cut ⟨false, hF, (le_down (down_all (ee_cons rfl rfl (Nat.le_of_ble_eq_true rfl) (ee_cons rfl rfl (cInstr.ok_psl _ rfl) (ee_cons rfl rfl (Nat.le_of_ble_eq_true rfl) (ee_cons rfl rfl rfl (ee_cons rfl rfl (Nat.le_of_ble_eq_true rfl) (ee_cons rfl rfl rfl (ee_cons rfl rfl rfl (ee_cons rfl rfl (cInstr.ok_psl _ rfl) (ee_cons rfl rfl rfl (ee_cons rfl rfl rfl (ee_cons rfl rfl rfl ee_nil))))))))))) (he_cons rfl rfl rfl (row_one (cImage.row_ok _ rfl)) (he_cons rfl rfl rfl (cInt.rows_ok _ rfl) (he_cons rfl rfl rfl (row_one (cInstr.row_ok _ rfl)) he_nil))) rfl rfl rfl rfl))⟩)
         ·refine sxk 9 tabOK rfl ?_
          refine ops_if (g := 85) hF rfl (fun hc hF => ?_) (fun hc hF => ?_)
          ·refine sxk 4 tabOK rfl ?_
           exact aops_nil (arr_cut ⟨(!decide ((x14 - x13.1) = 0)), hF, (le_down (down_all (ee_cons rfl rfl (Nat.le_of_ble_eq_true rfl) (ee_cons rfl rfl (cInstr.ok_psl _ rfl) (ee_cons rfl rfl (Nat.le_of_ble_eq_true rfl) (ee_cons rfl rfl rfl (ee_cons rfl rfl (Nat.le_of_ble_eq_true rfl) (ee_cons rfl rfl rfl (ee_cons rfl rfl rfl (ee_cons rfl rfl (cInstr.ok_psl _ rfl) (ee_cons rfl rfl rfl (ee_cons rfl rfl rfl (ee_cons rfl rfl rfl ee_nil))))))))))) (he_cons rfl rfl rfl (row_one (cImage.row_ok _ rfl)) (he_cons rfl rfl rfl (cInt.rows_ok _ rfl) (he_cons rfl rfl rfl (row_one (cInstr.row_ok _ rfl)) he_nil))) rfl rfl rfl rfl))⟩)
          ·refine sxk 4 tabOK rfl ?_
           exact aops_nil (arr_cut ⟨false, hF, (le_down (down_all (ee_cons rfl rfl (Nat.le_of_ble_eq_true rfl) (ee_cons rfl rfl (cInstr.ok_psl _ rfl) (ee_cons rfl rfl (Nat.le_of_ble_eq_true rfl) (ee_cons rfl rfl rfl (ee_cons rfl rfl (Nat.le_of_ble_eq_true rfl) (ee_cons rfl rfl rfl (ee_cons rfl rfl rfl (ee_cons rfl rfl (cInstr.ok_psl _ rfl) (ee_cons rfl rfl rfl (ee_cons rfl rfl rfl (ee_cons rfl rfl rfl ee_nil))))))))))) (he_cons rfl rfl rfl (row_one (cImage.row_ok _ rfl)) (he_cons rfl rfl rfl (cInt.rows_ok _ rfl) (he_cons rfl rfl rfl (row_one (cInstr.row_ok _ rfl)) he_nil))) rfl rfl rfl rfl))⟩)
      ·rintro x15 hF
       refine at_eq (s' := ⟨[(2, .ptr 3 1 0 0), (6, .psl 0 6 (x3.instrs.map (cInstr.enc 0))), (7, .hsl 4 0 depths9.length), (9, .int .i64 x8), (10, .ptr 5 1 0 0), (12, .int .i64 x13.2), (13, .int .i64 (x14 - x13.1)), (40, .psl 0 6 (x3.instrs.map (cInstr.enc 0))), (41, .int .i64 (x3.instrs.length : Int)), (42, .int .i64 x8), (89, .bool x15)], [(3, ⟨2, [cImage.row 0 m]⟩), (4, ⟨1, depths9.map (cInt.enc 0)⟩), (5, ⟨6, [cInstr.row 0 x11]⟩)], 6, 151, []⟩) rfl ?_
       replace hF : s_l10Depths_J4 x3 x8 depths9 go10 x11 x13 x14 x15 = some q := hF
       unfold s_l10Depths_J4 at hF
       refine ct_b hF rfl (fun hc hF => ?_) (fun hc hF => ?_)
       ·refine at_seq (at_keep [] rfl ?_)
        refine at_region (sxk 2 tabOK rfl ?_)
        refine aops_nil (at_ret (tk_r (bk_r (tk_r (ll_r (bk_r (tk_r ?_)))))))
        obtain rfl := Option.some.inj hF
        refine ret_le rfl ?_
        exact (vle_tup (.cons (vle_nil _ _) (.cons (vle_refl _) .nil)))
       ·refine at_skip (at_seq (at_region (sxk 1 tabOK rfl ?_)))
        obtain ⟨hb, hF⟩ := chk_some hF
        refine s_add tabOK rfl rfl rfl hb rfl ?_
        refine sc_slit cInt (l := 0) ([(x8 + 1)] : List Int) tabOK rfl rfl rfl rfl rfl rfl rfl ?_
        refine sxk 1 tabOK rfl ?_
        refine aops_nil (at_seq (at_seq (at_region (sxk 2 tabOK rfl ?_))))
        refine aops_nil (cl_midn (σ := List Int) (fun x16 => ⟨[(2, .ptr 3 1 0 0), (6, .psl 0 6 (x3.instrs.map (cInstr.enc 0))), (7, .hsl 4 0 depths9.length), (9, .int .i64 x8), (12, .int .i64 x13.2), (13, .int .i64 (x14 - x13.1)), (14, .hsl 8 0 x16.length), (40, .psl 0 6 (x3.instrs.map (cInstr.enc 0))), (41, .int .i64 (x3.instrs.length : Int)), (42, .int .i64 x8)], [(3, ⟨2, [cImage.row 0 m]⟩), (4, ⟨1, depths9.map (cInt.enc 0)⟩), (8, ⟨1, x16.map (cInt.enc 0)⟩)], 9, 151, []⟩) (fun x16 => s_l10Depths_J5 x3 x8 depths9 go10 x13 x14 x16 = some q) ?_ ?_)
        ·refine at_block (at_seq (at_seq (at_region (sxk 2 tabOK rfl ?_))))
         refine aops_nil (cl_midn (σ := Bool) (fun x16 => ⟨[(2, .ptr 3 1 0 0), (6, .psl 0 6 (x3.instrs.map (cInstr.enc 0))), (7, .hsl 4 0 depths9.length), (9, .int .i64 x8), (10, .ptr 5 1 0 0), (12, .int .i64 x13.2), (13, .int .i64 (x14 - x13.1)), (14, .hsl 6 0 ([(x8 + 1)] : List Int).length), (40, .psl 0 6 (x3.instrs.map (cInstr.enc 0))), (41, .int .i64 (x3.instrs.length : Int)), (42, .int .i64 x8), (94, .int .i64 x11.op), (95, .bool x16)], [(3, ⟨2, [cImage.row 0 m]⟩), (4, ⟨1, depths9.map (cInt.enc 0)⟩), (5, ⟨6, [cInstr.row 0 x11]⟩), (6, ⟨1, ([(x8 + 1)] : List Int).map (cInt.enc 0)⟩)], 7, 151, []⟩) (fun x16 => s_l10Depths_J8 x3 x8 depths9 go10 x11 x13 x14 x16 = some q) ?_ ?_)
         ·refine ct_if hF rfl (fun hc hF => ?_) (fun hc hF => ?_)
          ·exact at_skip (arr_cut ⟨true, hF, (le_down (down_all (ee_cons rfl rfl (Nat.le_of_ble_eq_true rfl) (ee_cons rfl rfl (cInstr.ok_psl _ rfl) (ee_cons rfl rfl (Nat.le_of_ble_eq_true rfl) (ee_cons rfl rfl rfl (ee_cons rfl rfl (Nat.le_of_ble_eq_true rfl) (ee_cons rfl rfl rfl (ee_cons rfl rfl rfl (ee_cons rfl rfl (Nat.le_of_ble_eq_true rfl) (ee_cons rfl rfl (cInstr.ok_psl _ rfl) (ee_cons rfl rfl rfl (ee_cons rfl rfl rfl (ee_cons rfl rfl rfl (ee_cons rfl rfl rfl ee_nil))))))))))))) (he_cons rfl rfl rfl (row_one (cImage.row_ok _ rfl)) (he_cons rfl rfl rfl (cInt.rows_ok _ rfl) (he_cons rfl rfl rfl (row_one (cInstr.row_ok _ rfl)) (he_cons rfl rfl rfl (cInt.rows_ok _ rfl) he_nil)))) rfl rfl rfl rfl))⟩)
          ·refine at_keep [2, 6, 7, 9, 10, 12, 13, 14, 40, 41, 42, 94] rfl ?_
           refine at_region (sxk 2 tabOK rfl ?_)
           exact aops_nil (arr_cut ⟨(decide (x11.op = 13)), hF, (le_down (down_all (ee_cons rfl rfl (Nat.le_of_ble_eq_true rfl) (ee_cons rfl rfl (cInstr.ok_psl _ rfl) (ee_cons rfl rfl (Nat.le_of_ble_eq_true rfl) (ee_cons rfl rfl rfl (ee_cons rfl rfl (Nat.le_of_ble_eq_true rfl) (ee_cons rfl rfl rfl (ee_cons rfl rfl rfl (ee_cons rfl rfl (Nat.le_of_ble_eq_true rfl) (ee_cons rfl rfl (cInstr.ok_psl _ rfl) (ee_cons rfl rfl rfl (ee_cons rfl rfl rfl (ee_cons rfl rfl rfl (ee_cons rfl rfl rfl ee_nil))))))))))))) (he_cons rfl rfl rfl (row_one (cImage.row_ok _ rfl)) (he_cons rfl rfl rfl (cInt.rows_ok _ rfl) (he_cons rfl rfl rfl (row_one (cInstr.row_ok _ rfl)) (he_cons rfl rfl rfl (cInt.rows_ok _ rfl) he_nil)))) rfl rfl rfl rfl))⟩)
         ·rintro x16 hF
          refine at_eq (s' := ⟨[(2, .ptr 3 1 0 0), (6, .psl 0 6 (x3.instrs.map (cInstr.enc 0))), (7, .hsl 4 0 depths9.length), (9, .int .i64 x8), (10, .ptr 5 1 0 0), (12, .int .i64 x13.2), (13, .int .i64 (x14 - x13.1)), (14, .hsl 6 0 ([(x8 + 1)] : List Int).length), (40, .psl 0 6 (x3.instrs.map (cInstr.enc 0))), (41, .int .i64 (x3.instrs.length : Int)), (42, .int .i64 x8), (94, .int .i64 x11.op), (95, .bool x16)], [(3, ⟨2, [cImage.row 0 m]⟩), (4, ⟨1, depths9.map (cInt.enc 0)⟩), (5, ⟨6, [cInstr.row 0 x11]⟩), (6, ⟨1, ([(x8 + 1)] : List Int).map (cInt.enc 0)⟩)], 7, 151, []⟩) rfl ?_
          replace hF : s_l10Depths_J8 x3 x8 depths9 go10 x11 x13 x14 x16 = some q := hF
          unfold s_l10Depths_J8 at hF
          refine ct_b hF rfl (fun hc hF => ?_) (fun hc hF => ?_)
          ·refine at_region (sxk 1 tabOK rfl ?_)
           exact aops_nil (bk_n (arr_cut ⟨[], hF, ((le_bump 8 rfl rfl).trans ((le_nilrow 14 1 rfl rfl).trans (le_down (down_all (ee_cons rfl rfl (Nat.le_of_ble_eq_true rfl) (ee_cons rfl rfl (cInstr.ok_psl _ rfl) (ee_cons rfl rfl (Nat.le_of_ble_eq_true rfl) (ee_cons rfl rfl rfl (ee_cons rfl rfl rfl (ee_cons rfl rfl rfl (ee_cons rfl rfl (Nat.le_of_ble_eq_true rfl) (ee_cons rfl rfl (cInstr.ok_psl _ rfl) (ee_cons rfl rfl rfl (ee_cons rfl rfl rfl ee_nil)))))))))) (he_cons rfl rfl rfl (row_one (cImage.row_ok _ rfl)) (he_cons rfl rfl rfl (cInt.rows_ok _ rfl) (he_cons rfl rfl rfl (cInt.rows_ok _ rfl) he_nil))) rfl rfl rfl rfl))))⟩))
          ·refine at_seq (at_region (sxk 2 tabOK rfl ?_))
           refine aops_nil (ct_if hF rfl (fun hc hF => ?_) (fun hc hF => ?_))
           ·refine at_region (sxk 2 tabOK rfl ?_)
            refine sc_slit cInt (l := 0) ([x11.a] : List Int) tabOK rfl rfl rfl rfl rfl rfl rfl ?_
            refine sxk 1 tabOK rfl ?_
            exact aops_nil (bk_n (arr_cut ⟨([x11.a] : List Int), hF, ((le_renum 14 rfl rfl (by simp) rfl).trans (le_down (down_all (ee_cons rfl rfl (Nat.le_of_ble_eq_true rfl) (ee_cons rfl rfl (cInstr.ok_psl _ rfl) (ee_cons rfl rfl (Nat.le_of_ble_eq_true rfl) (ee_cons rfl rfl rfl (ee_cons rfl rfl rfl (ee_cons rfl rfl rfl (ee_cons rfl rfl (Nat.le_of_ble_eq_true rfl) (ee_cons rfl rfl (cInstr.ok_psl _ rfl) (ee_cons rfl rfl rfl (ee_cons rfl rfl rfl ee_nil)))))))))) (he_cons rfl rfl rfl (row_one (cImage.row_ok _ rfl)) (he_cons rfl rfl rfl (cInt.rows_ok _ rfl) (he_cons rfl rfl rfl (cInt.rows_ok _ rfl) he_nil))) rfl rfl rfl rfl)))⟩))
           ·refine at_seq (at_region (sxk 2 tabOK rfl ?_))
            refine aops_nil (ct_if hF rfl (fun hc hF => ?_) (fun hc hF => ?_))
            ·refine at_region (sxk 3 tabOK rfl ?_)
             refine sc_slit cInt (l := 0) ([x11.a] : List Int) tabOK rfl rfl rfl rfl rfl rfl rfl ?_
             obtain ⟨hb, hF⟩ := chk_some hF
             refine sc_append cInt (l := 0) (xs := ([(x8 + 1)] : List Int)) (ys := ([x11.a] : List Int)) hb rfl tabOK rfl rfl rfl rfl rfl rfl rfl (srcC_hsl cInt rfl rfl rfl) rfl ?_
             refine sxk 1 tabOK rfl ?_
             exact aops_nil (bk_n (arr_cut ⟨(([(x8 + 1)] : List Int) ++ ([x11.a] : List Int)), hF, ((le_renum 14 rfl rfl (by simp) rfl).trans (le_down (down_all (ee_cons rfl rfl (Nat.le_of_ble_eq_true rfl) (ee_cons rfl rfl (cInstr.ok_psl _ rfl) (ee_cons rfl rfl (Nat.le_of_ble_eq_true rfl) (ee_cons rfl rfl rfl (ee_cons rfl rfl rfl (ee_cons rfl rfl rfl (ee_cons rfl rfl (Nat.le_of_ble_eq_true rfl) (ee_cons rfl rfl (cInstr.ok_psl _ rfl) (ee_cons rfl rfl rfl (ee_cons rfl rfl rfl ee_nil)))))))))) (he_cons rfl rfl rfl (row_one (cImage.row_ok _ rfl)) (he_cons rfl rfl rfl (cInt.rows_ok _ rfl) (he_cons rfl rfl rfl (cInt.rows_ok _ rfl) he_nil))) rfl rfl rfl rfl)))⟩))
            ·exact at_skip (bk_n (arr_cut ⟨([(x8 + 1)] : List Int), hF, ((le_bump 8 rfl rfl).trans ((le_renum 14 rfl rfl (by simp) rfl).trans (le_down (down_all (ee_cons rfl rfl (Nat.le_of_ble_eq_true rfl) (ee_cons rfl rfl (cInstr.ok_psl _ rfl) (ee_cons rfl rfl (Nat.le_of_ble_eq_true rfl) (ee_cons rfl rfl rfl (ee_cons rfl rfl rfl (ee_cons rfl rfl rfl (ee_cons rfl rfl (Nat.le_of_ble_eq_true rfl) (ee_cons rfl rfl (cInstr.ok_psl _ rfl) (ee_cons rfl rfl rfl (ee_cons rfl rfl rfl ee_nil)))))))))) (he_cons rfl rfl rfl (row_one (cImage.row_ok _ rfl)) (he_cons rfl rfl rfl (cInt.rows_ok _ rfl) (he_cons rfl rfl rfl (cInt.rows_ok _ rfl) he_nil))) rfl rfl rfl rfl))))⟩))
        ·rintro x16 hF
         refine at_eq (s' := ⟨[(2, .ptr 3 1 0 0), (6, .psl 0 6 (x3.instrs.map (cInstr.enc 0))), (7, .hsl 4 0 depths9.length), (9, .int .i64 x8), (12, .int .i64 x13.2), (13, .int .i64 (x14 - x13.1)), (14, .hsl 8 0 x16.length), (40, .psl 0 6 (x3.instrs.map (cInstr.enc 0))), (41, .int .i64 (x3.instrs.length : Int)), (42, .int .i64 x8)], [(3, ⟨2, [cImage.row 0 m]⟩), (4, ⟨1, depths9.map (cInt.enc 0)⟩), (8, ⟨1, x16.map (cInt.enc 0)⟩)], 9, 151, []⟩) rfl ?_
         replace hF : s_l10Depths_J5 x3 x8 depths9 go10 x13 x14 x16 = some q := hF
         unfold s_l10Depths_J5 at hF
         refine at_seq (at_region (sxk 1 tabOK rfl ?_))
         refine sv rfl (oc_hlen cInt tabOK rfl rfl rfl) rfl ?_
         refine sxk 1 tabOK rfl ?_
         refine aops_nil (at_block (cl_loop (σ := Int × List Int) (fun v => match v with | (x17, depths18) => ⟨[(2, .ptr 3 1 0 0), (6, .psl 0 6 (x3.instrs.map (cInstr.enc 0))), (7, .hsl 4 0 depths18.length), (9, .int .i64 x8), (12, .int .i64 x13.2), (13, .int .i64 (x14 - x13.1)), (40, .psl 0 6 (x3.instrs.map (cInstr.enc 0))), (41, .int .i64 (x3.instrs.length : Int)), (42, .int .i64 x8), (110, .hsl 8 0 x16.length), (111, .int .i64 (x16.length : Int)), (112, .int .i64 x17)], [(3, ⟨2, [cImage.row 0 m]⟩), (4, ⟨1, depths18.map (cInt.enc 0)⟩), (8, ⟨1, x16.map (cInt.enc 0)⟩)], 9, 151, []⟩) (s_l10Depths_L6 x3 x8 go10 x13 x14 x16) LF (0, depths9) hF (le_down (down_all (ee_cons rfl rfl (Nat.le_of_ble_eq_true rfl) (ee_cons rfl rfl (cInstr.ok_psl _ rfl) (ee_cons rfl rfl (Nat.le_of_ble_eq_true rfl) (ee_cons rfl rfl rfl (ee_cons rfl rfl rfl (ee_cons rfl rfl rfl (ee_cons rfl rfl (cInstr.ok_psl _ rfl) (ee_cons rfl rfl rfl (ee_cons rfl rfl rfl (ee_cons rfl rfl (Nat.le_of_ble_eq_true rfl) (ee_cons rfl rfl rfl (ee_cons rfl rfl rfl ee_nil)))))))))))) (he_cons rfl rfl rfl (row_one (cImage.row_ok _ rfl)) (he_cons rfl rfl rfl (cInt.rows_ok _ rfl) (he_cons rfl rfl rfl (cInt.rows_ok _ rfl) he_nil))) rfl rfl rfl rfl)) ?_))
         rintro lk_ ⟨x17, depths18⟩ hF
         refine at_eq (s' := ⟨[(2, .ptr 3 1 0 0), (6, .psl 0 6 (x3.instrs.map (cInstr.enc 0))), (7, .hsl 4 0 depths18.length), (9, .int .i64 x8), (12, .int .i64 x13.2), (13, .int .i64 (x14 - x13.1)), (40, .psl 0 6 (x3.instrs.map (cInstr.enc 0))), (41, .int .i64 (x3.instrs.length : Int)), (42, .int .i64 x8), (110, .hsl 8 0 x16.length), (111, .int .i64 (x16.length : Int)), (112, .int .i64 x17)], [(3, ⟨2, [cImage.row 0 m]⟩), (4, ⟨1, depths18.map (cInt.enc 0)⟩), (8, ⟨1, x16.map (cInt.enc 0)⟩)], 9, 151, []⟩) rfl ?_
         replace hF : s_l10Depths_L6b x3 x8 go10 x13 x14 x16 (itr (s_l10Depths_L6 x3 x8 go10 x13 x14 x16) lk_) x17 depths18 = some q := hF
         unfold s_l10Depths_L6b at hF
         generalize itr (s_l10Depths_L6 x3 x8 go10 x13 x14 x16) lk_ = go19 at hF ⊢
         refine at_seq (at_region (sxk 1 tabOK rfl ?_))
         refine aops_nil (at_seq (ct_if hF rfl (fun hc hF => ?_) (fun hc hF => ?_)))
         ·refine at_skip (at_seq (at_block (at_seq (at_region ?_))))
          obtain ⟨x20, hn_x20, hF⟩ := bnd_some hF
          refine sv rfl (oc_haddr cInt hn_x20 tabOK rfl rfl rfl rfl) rfl ?_
          refine sv rfl (oc_load cInt hn_x20 tabOK rfl rfl rfl rfl) rfl ?_
          refine sxk 1 tabOK rfl ?_
          refine aops_nil (at_seq (at_seq (cl_midn (σ := Bool) (fun x21 => ⟨[(2, .ptr 3 1 0 0), (6, .psl 0 6 (x3.instrs.map (cInstr.enc 0))), (7, .hsl 4 0 depths18.length), (9, .int .i64 x8), (12, .int .i64 x13.2), (13, .int .i64 (x14 - x13.1)), (16, .int .i64 x20), (40, .psl 0 6 (x3.instrs.map (cInstr.enc 0))), (41, .int .i64 (x3.instrs.length : Int)), (42, .int .i64 x8), (110, .hsl 8 0 x16.length), (111, .int .i64 (x16.length : Int)), (112, .int .i64 x17), (141, .bool x21)], [(3, ⟨2, [cImage.row 0 m]⟩), (4, ⟨1, depths18.map (cInt.enc 0)⟩), (8, ⟨1, x16.map (cInt.enc 0)⟩)], 9, 151, []⟩) (fun x21 => s_l10Depths_J7 x13 x14 x17 depths18 go19 x20 x21 = some q) ?_ ?_)))
          ·refine at_region (sxk 4 tabOK rfl ?_)
           refine ops_if (g := 119) hF rfl (fun hc hF => ?_) (fun hc hF => ?_)
           ·refine sxk 22 tabOK rfl ?_
            exact aops_nil (arr_cut ⟨true, hF, (le_down (down_all (ee_cons rfl rfl (Nat.le_of_ble_eq_true rfl) (ee_cons rfl rfl (cInstr.ok_psl _ rfl) (ee_cons rfl rfl (Nat.le_of_ble_eq_true rfl) (ee_cons rfl rfl rfl (ee_cons rfl rfl rfl (ee_cons rfl rfl rfl (ee_cons rfl rfl rfl (ee_cons rfl rfl (cInstr.ok_psl _ rfl) (ee_cons rfl rfl rfl (ee_cons rfl rfl rfl (ee_cons rfl rfl (Nat.le_of_ble_eq_true rfl) (ee_cons rfl rfl rfl (ee_cons rfl rfl rfl (ee_cons rfl rfl rfl ee_nil)))))))))))))) (he_cons rfl rfl rfl (row_one (cImage.row_ok _ rfl)) (he_cons rfl rfl rfl (cInt.rows_ok _ rfl) (he_cons rfl rfl rfl (cInt.rows_ok _ rfl) he_nil))) rfl rfl rfl rfl))⟩)
           ·refine sxk 2 tabOK rfl ?_
            refine sv rfl (oc_len cInstr tabOK rfl rfl rfl) rfl ?_
            refine sxk 3 tabOK rfl ?_
            refine ops_if (g := 125) hF rfl (fun hc hF => ?_) (fun hc hF => ?_)
            ·refine sxk 16 tabOK rfl ?_
             exact aops_nil (arr_cut ⟨true, hF, (le_down (down_all (ee_cons rfl rfl (Nat.le_of_ble_eq_true rfl) (ee_cons rfl rfl (cInstr.ok_psl _ rfl) (ee_cons rfl rfl (Nat.le_of_ble_eq_true rfl) (ee_cons rfl rfl rfl (ee_cons rfl rfl rfl (ee_cons rfl rfl rfl (ee_cons rfl rfl rfl (ee_cons rfl rfl (cInstr.ok_psl _ rfl) (ee_cons rfl rfl rfl (ee_cons rfl rfl rfl (ee_cons rfl rfl (Nat.le_of_ble_eq_true rfl) (ee_cons rfl rfl rfl (ee_cons rfl rfl rfl (ee_cons rfl rfl rfl ee_nil)))))))))))))) (he_cons rfl rfl rfl (row_one (cImage.row_ok _ rfl)) (he_cons rfl rfl rfl (cInt.rows_ok _ rfl) (he_cons rfl rfl rfl (cInt.rows_ok _ rfl) he_nil))) rfl rfl rfl rfl))⟩)
            ·refine sxk 2 tabOK rfl ?_
             obtain ⟨x21, hn_x21, hF⟩ := bnd_some hF
             refine sv rfl (oc_haddr cInt hn_x21 tabOK rfl rfl rfl rfl) rfl ?_
             refine sv rfl (oc_load cInt hn_x21 tabOK rfl rfl rfl rfl) rfl ?_
             refine sxk 2 tabOK rfl ?_
             refine ops_if (g := 131) hF rfl (fun hc hF => ?_) (fun hc hF => ?_)
             ·refine sxk 2 tabOK rfl ?_
              obtain ⟨x22, hn_x22, hF⟩ := bnd_some hF
              refine sv rfl (oc_haddr cInt hn_x22 tabOK rfl rfl rfl rfl) rfl ?_
              refine sv rfl (oc_load cInt hn_x22 tabOK rfl rfl rfl rfl) rfl ?_
              refine sxk 2 tabOK rfl ?_
              obtain ⟨hb, hF⟩ := chk_some hF
              refine s_add tabOK rfl rfl rfl hb rfl ?_
              refine sxk 3 tabOK rfl ?_
              exact aops_nil (arr_cut ⟨(!decide (x22 = ((x14 - x13.1) + x13.2))), hF, (le_down (down_all (ee_cons rfl rfl (Nat.le_of_ble_eq_true rfl) (ee_cons rfl rfl (cInstr.ok_psl _ rfl) (ee_cons rfl rfl (Nat.le_of_ble_eq_true rfl) (ee_cons rfl rfl rfl (ee_cons rfl rfl rfl (ee_cons rfl rfl rfl (ee_cons rfl rfl rfl (ee_cons rfl rfl (cInstr.ok_psl _ rfl) (ee_cons rfl rfl rfl (ee_cons rfl rfl rfl (ee_cons rfl rfl (Nat.le_of_ble_eq_true rfl) (ee_cons rfl rfl rfl (ee_cons rfl rfl rfl (ee_cons rfl rfl rfl ee_nil)))))))))))))) (he_cons rfl rfl rfl (row_one (cImage.row_ok _ rfl)) (he_cons rfl rfl rfl (cInt.rows_ok _ rfl) (he_cons rfl rfl rfl (cInt.rows_ok _ rfl) he_nil))) rfl rfl rfl rfl))⟩)
             ·refine sxk 10 tabOK rfl ?_
              exact aops_nil (arr_cut ⟨false, hF, (le_down (down_all (ee_cons rfl rfl (Nat.le_of_ble_eq_true rfl) (ee_cons rfl rfl (cInstr.ok_psl _ rfl) (ee_cons rfl rfl (Nat.le_of_ble_eq_true rfl) (ee_cons rfl rfl rfl (ee_cons rfl rfl rfl (ee_cons rfl rfl rfl (ee_cons rfl rfl rfl (ee_cons rfl rfl (cInstr.ok_psl _ rfl) (ee_cons rfl rfl rfl (ee_cons rfl rfl rfl (ee_cons rfl rfl (Nat.le_of_ble_eq_true rfl) (ee_cons rfl rfl rfl (ee_cons rfl rfl rfl (ee_cons rfl rfl rfl ee_nil)))))))))))))) (he_cons rfl rfl rfl (row_one (cImage.row_ok _ rfl)) (he_cons rfl rfl rfl (cInt.rows_ok _ rfl) (he_cons rfl rfl rfl (cInt.rows_ok _ rfl) he_nil))) rfl rfl rfl rfl))⟩)
          ·rintro x21 hF
           refine at_eq (s' := ⟨[(2, .ptr 3 1 0 0), (6, .psl 0 6 (x3.instrs.map (cInstr.enc 0))), (7, .hsl 4 0 depths18.length), (9, .int .i64 x8), (12, .int .i64 x13.2), (13, .int .i64 (x14 - x13.1)), (16, .int .i64 x20), (40, .psl 0 6 (x3.instrs.map (cInstr.enc 0))), (41, .int .i64 (x3.instrs.length : Int)), (42, .int .i64 x8), (110, .hsl 8 0 x16.length), (111, .int .i64 (x16.length : Int)), (112, .int .i64 x17), (141, .bool x21)], [(3, ⟨2, [cImage.row 0 m]⟩), (4, ⟨1, depths18.map (cInt.enc 0)⟩), (8, ⟨1, x16.map (cInt.enc 0)⟩)], 9, 151, []⟩) rfl ?_
           replace hF : s_l10Depths_J7 x13 x14 x17 depths18 go19 x20 x21 = some q := hF
           unfold s_l10Depths_J7 at hF
           refine ct_b hF rfl (fun hc hF => ?_) (fun hc hF => ?_)
           ·refine at_seq (at_keep [] rfl ?_)
            refine at_region (sxk 2 tabOK rfl ?_)
            refine aops_nil (at_ret (tk_r (bk_r (tk_r (ll_r (bk_r (bk_r (tk_r (ll_r (bk_r (tk_r ?_)))))))))))
            obtain rfl := Option.some.inj hF
            refine ret_le rfl ?_
            exact (vle_tup (.cons (vle_nil _ _) (.cons (vle_refl _) .nil)))
           ·refine at_skip (at_region (sxk 4 tabOK rfl ?_))
            obtain ⟨hb, hF⟩ := chk_some hF
            refine s_add tabOK rfl rfl rfl hb rfl ?_
            obtain ⟨x22, hn_x22, hF⟩ := bnd_some hF
            refine sv rfl (oc_haddr cInt hn_x22 tabOK rfl rfl rfl rfl) rfl ?_
            refine sc_store cInt (v' := ((x14 - x13.1) + x13.2)) hn_x22 tabOK rfl rfl rfl rfl rfl rfl rfl rfl ?_
            refine ops_le (le_slot (y := .hsl 4 0 (depths18.set x20.toNat ((x14 - x13.1) + x13.2)).length) 7 rfl (vle_eq (congrArg (V.hsl 4 0) (by simp))) rfl) ?_
            refine aops_nil (bk_n (at_keep [2, 6, 7, 9, 12, 13, 40, 41, 42, 110, 111, 112] rfl ?_))
            refine at_region ?_
            obtain ⟨hb, hF⟩ := chk_some hF
            refine s_add tabOK rfl rfl rfl hb rfl ?_
            refine sxk 1 tabOK rfl ?_
            exact aops_nil (arr_loop ⟨((x17 + 1), (depths18.set x20.toNat ((x14 - x13.1) + x13.2))), hF, (le_down (down_all (ee_cons rfl rfl (Nat.le_of_ble_eq_true rfl) (ee_cons rfl rfl (cInstr.ok_psl _ rfl) (ee_cons rfl rfl (Nat.le_of_ble_eq_true rfl) (ee_cons rfl rfl rfl (ee_cons rfl rfl rfl (ee_cons rfl rfl rfl (ee_cons rfl rfl (cInstr.ok_psl _ rfl) (ee_cons rfl rfl rfl (ee_cons rfl rfl rfl (ee_cons rfl rfl (Nat.le_of_ble_eq_true rfl) (ee_cons rfl rfl rfl (ee_cons rfl rfl rfl ee_nil)))))))))))) (he_cons rfl rfl rfl (row_one (cImage.row_ok _ rfl)) (he_cons rfl rfl rfl (cInt.rows_ok _ rfl) (he_cons rfl rfl rfl (cInt.rows_ok _ rfl) he_nil))) rfl rfl rfl rfl))⟩)
         ·exact at_exit (tk_x (ll_x (bk_hit (bk_n (arr_cut ⟨depths18, hF, (le_down (down_all (ee_cons rfl rfl (Nat.le_of_ble_eq_true rfl) (ee_cons rfl rfl (cInstr.ok_psl _ rfl) (ee_cons rfl rfl (Nat.le_of_ble_eq_true rfl) (ee_cons rfl rfl (cInstr.ok_psl _ rfl) (ee_cons rfl rfl rfl (ee_cons rfl rfl rfl ee_nil)))))) (he_cons rfl rfl rfl (row_one (cImage.row_ok _ rfl)) (he_cons rfl rfl rfl (cInt.rows_ok _ rfl) he_nil)) rfl rfl rfl rfl))⟩)))))
    ·rintro depths11 hF
     refine at_eq (s' := ⟨[(2, .ptr 3 1 0 0), (6, .psl 0 6 (x3.instrs.map (cInstr.enc 0))), (7, .hsl 4 0 depths11.length), (40, .psl 0 6 (x3.instrs.map (cInstr.enc 0))), (41, .int .i64 (x3.instrs.length : Int)), (42, .int .i64 x8)], [(3, ⟨2, [cImage.row 0 m]⟩), (4, ⟨1, depths11.map (cInt.enc 0)⟩)], 5, 151, []⟩) rfl ?_
     replace hF : s_l10Depths_J3 x8 go10 depths11 = some q := hF
     unfold s_l10Depths_J3 at hF
     refine at_region ?_
     obtain ⟨hb, hF⟩ := chk_some hF
     refine s_add tabOK rfl rfl rfl hb rfl ?_
     refine sxk 1 tabOK rfl ?_
     exact aops_nil (arr_loop ⟨((x8 + 1), depths11), hF, (le_down (down_all (ee_cons rfl rfl (Nat.le_of_ble_eq_true rfl) (ee_cons rfl rfl (cInstr.ok_psl _ rfl) (ee_cons rfl rfl (Nat.le_of_ble_eq_true rfl) (ee_cons rfl rfl (cInstr.ok_psl _ rfl) (ee_cons rfl rfl rfl (ee_cons rfl rfl rfl ee_nil)))))) (he_cons rfl rfl rfl (row_one (cImage.row_ok _ rfl)) (he_cons rfl rfl rfl (cInt.rows_ok _ rfl) he_nil)) rfl rfl rfl rfl))⟩)
   ·refine at_exit (tk_x (ll_x (bk_hit (at_seq (at_region (sxk 3 tabOK rfl ?_))))))
    refine aops_nil (at_le (le_freeze 4 rfl rfl (by simp) rfl) ?_)
    refine at_ret ?_
    obtain rfl := Option.some.inj hF
    refine ret_le rfl ?_
    exact (vle_tup (.cons (vle_refl _) (.cons (vle_refl _) .nil)))

theorem s_l10Inside_ok (op : Int) (q : Bool) (hF : s_l10Inside op = some q) : FC Tryd.prog 55 [.int .i64 op] [] 3 (fun x _ => x = .bool q) := by
 refine FC.of_le ?_
 refine fc_body tabOK Tryd.func55 rfl Tryd.ntmps55 rfl rfl rfl ?_
 unfold s_l10Inside at hF
 refine at_seq (at_region (sxk 1 tabOK rfl ?_))
 refine aops_nil (at_seq (at_region (sxk 3 tabOK rfl ?_)))
 refine ops_if (g := 5) hF rfl (fun hc hF => ?_) (fun hc hF => ?_)
 ·refine sxk 12 tabOK rfl ?_
  refine aops_nil (at_ret ?_)
  obtain rfl := Option.some.inj hF
  refine ret_le rfl ?_
  exact (vle_refl _)
 ·refine sxk 4 tabOK rfl ?_
  refine ops_if (g := 9) hF rfl (fun hc hF => ?_) (fun hc hF => ?_)
  ·refine sxk 8 tabOK rfl ?_
   refine aops_nil (at_ret ?_)
   obtain rfl := Option.some.inj hF
   refine ret_le rfl ?_
   exact (vle_refl _)
  ·refine sxk 4 tabOK rfl ?_
   refine ops_if (g := 13) hF rfl (fun hc hF => ?_) (fun hc hF => ?_)
   ·refine sxk 4 tabOK rfl ?_
    refine aops_nil (at_ret ?_)
    obtain rfl := Option.some.inj hF
    refine ret_le rfl ?_
    exact (vle_refl _)
   ·refine sxk 4 tabOK rfl ?_
    refine aops_nil (at_ret ?_)
    obtain rfl := Option.some.inj hF
    refine ret_le rfl ?_
    exact (vle_refl _)

theorem s_l10Tree_ok (m : PImage) (q : Bool) (hF : s_l10Tree m = some q) : FC Tryd.prog 38 [.agg (cImage.row 0 m)] [] 3 (fun x _ => x = .bool q) := by
 refine FC.of_le ?_
 refine fc_body tabOK Tryd.func38 rfl Tryd.ntmps38 rfl rfl rfl ?_
 unfold s_l10Tree at hF
 refine at_seq (at_region (sxk 2 tabOK rfl ?_))
 refine aops_nil (at_seq (at_region (sxk 2 tabOK rfl ?_)))
 refine sv rfl (oc_len cCode tabOK rfl rfl rfl) rfl ?_
 obtain ⟨hb, hF⟩ := chk_some hF
 refine sc_make cInt (l := 0) (v := (0 : Int)) hb tabOK rfl rfl rfl rfl (vleL_refl _) rfl rfl rfl rfl ?_
 refine sxk 1 tabOK rfl ?_
 refine aops_nil (at_seq (at_seq (at_region (sxk 2 tabOK rfl ?_))))
 refine sv rfl (oc_len cCode tabOK rfl rfl rfl) rfl ?_
 refine sxk 1 tabOK rfl ?_
 refine aops_nil (at_block (cl_loop (σ := Int × List Int) (fun v => match v with | (x2, times3) => ⟨[(1, .ptr 3 1 0 0), (3, .hsl 4 0 times3.length), (15, .psl 0 4 (m.codes.map (cCode.enc 0))), (16, .int .i64 (m.codes.length : Int)), (17, .int .i64 x2)], [(3, ⟨2, [cImage.row 0 m]⟩), (4, ⟨1, times3.map (cInt.enc 0)⟩)], 5, 56, []⟩) (s_l10Tree_L1 m) LF (0, (List.replicate (m.codes.length : Int).toNat (0 : Int))) hF (le_down (down_all (ee_cons rfl rfl (Nat.le_of_ble_eq_true rfl) (ee_cons rfl rfl (Nat.le_of_ble_eq_true rfl) (ee_cons rfl rfl (cCode.ok_psl _ rfl) (ee_cons rfl rfl rfl (ee_cons rfl rfl rfl ee_nil))))) (he_cons rfl rfl rfl (row_one (cImage.row_ok _ rfl)) (he_cons rfl rfl rfl (cInt.rows_ok _ rfl) he_nil)) rfl rfl rfl rfl)) ?_))
 rintro lk_ ⟨x2, times3⟩ hF
 refine at_eq (s' := ⟨[(1, .ptr 3 1 0 0), (3, .hsl 4 0 times3.length), (15, .psl 0 4 (m.codes.map (cCode.enc 0))), (16, .int .i64 (m.codes.length : Int)), (17, .int .i64 x2)], [(3, ⟨2, [cImage.row 0 m]⟩), (4, ⟨1, times3.map (cInt.enc 0)⟩)], 5, 56, []⟩) rfl ?_
 replace hF : s_l10Tree_L1b m (itr (s_l10Tree_L1 m) lk_) x2 times3 = some q := hF
 unfold s_l10Tree_L1b at hF
 generalize itr (s_l10Tree_L1 m) lk_ = go4 at hF ⊢
 refine at_seq (at_region (sxk 1 tabOK rfl ?_))
 refine aops_nil (at_seq (ct_if hF rfl (fun hc hF => ?_) (fun hc hF => ?_)))
 ·refine at_skip (at_seq (at_block (at_seq (at_region ?_))))
  obtain ⟨x5, hn_x5, hF⟩ := bnd_some hF
  refine sv rfl (oc_addr cCode hn_x5 tabOK rfl rfl rfl rfl) rfl ?_
  refine sxk 3 tabOK rfl ?_
  refine aops_nil (at_seq (at_region (sxk 2 tabOK rfl ?_)))
  refine sv rfl (oc_len cInstr tabOK rfl rfl rfl) rfl ?_
  refine sxk 1 tabOK rfl ?_
  refine aops_nil (at_block (cl_loop (σ := Int × List Int) (fun v => match v with | (x6, times7) => ⟨[(1, .ptr 3 1 0 0), (3, .hsl 4 0 times7.length), (15, .psl 0 4 (m.codes.map (cCode.enc 0))), (16, .int .i64 (m.codes.length : Int)), (17, .int .i64 x2), (22, .psl 0 6 (x5.instrs.map (cInstr.enc 0))), (23, .int .i64 (x5.instrs.length : Int)), (24, .int .i64 x6)], [(3, ⟨2, [cImage.row 0 m]⟩), (4, ⟨1, times7.map (cInt.enc 0)⟩)], 6, 56, []⟩) (s_l10Tree_L2 x2 go4 x5) LF (0, times3) hF (le_down (down_all (ee_cons rfl rfl (Nat.le_of_ble_eq_true rfl) (ee_cons rfl rfl (Nat.le_of_ble_eq_true rfl) (ee_cons rfl rfl (cCode.ok_psl _ rfl) (ee_cons rfl rfl rfl (ee_cons rfl rfl rfl (ee_cons rfl rfl (cInstr.ok_psl _ rfl) (ee_cons rfl rfl rfl (ee_cons rfl rfl rfl ee_nil)))))))) (he_cons rfl rfl rfl (row_one (cImage.row_ok _ rfl)) (he_cons rfl rfl rfl (cInt.rows_ok _ rfl) he_nil)) rfl rfl rfl rfl)) ?_))
  rintro lk_ ⟨x6, times7⟩ hF
  refine at_eq (s' := ⟨[(1, .ptr 3 1 0 0), (3, .hsl 4 0 times7.length), (15, .psl 0 4 (m.codes.map (cCode.enc 0))), (16, .int .i64 (m.codes.length : Int)), (17, .int .i64 x2), (22, .psl 0 6 (x5.instrs.map (cInstr.enc 0))), (23, .int .i64 (x5.instrs.length : Int)), (24, .int .i64 x6)], [(3, ⟨2, [cImage.row 0 m]⟩), (4, ⟨1, times7.map (cInt.enc 0)⟩)], 6, 56, []⟩) rfl ?_
  replace hF : s_l10Tree_L2b x2 go4 x5 (itr (s_l10Tree_L2 x2 go4 x5) lk_) x6 times7 = some q := hF
  unfold s_l10Tree_L2b at hF
  generalize itr (s_l10Tree_L2 x2 go4 x5) lk_ = go8 at hF ⊢
  refine at_seq (at_region (sxk 1 tabOK rfl ?_))
  refine aops_nil (at_seq (ct_if hF rfl (fun hc hF => ?_) (fun hc hF => ?_)))
  ·refine at_skip (at_seq (cl_midn (σ := List Int) (fun times9 => ⟨[(1, .ptr 3 1 0 0), (3, .hsl 4 0 times9.length), (15, .psl 0 4 (m.codes.map (cCode.enc 0))), (16, .int .i64 (m.codes.length : Int)), (17, .int .i64 x2), (22, .psl 0 6 (x5.instrs.map (cInstr.enc 0))), (23, .int .i64 (x5.instrs.length : Int)), (24, .int .i64 x6)], [(3, ⟨2, [cImage.row 0 m]⟩), (4, ⟨1, times9.map (cInt.enc 0)⟩)], 5, 56, []⟩) (fun times9 => s_l10Tree_J3 x6 go8 times9 = some q) ?_ ?_))
   ·refine at_block (at_seq (at_region ?_))
    obtain ⟨x9, hn_x9, hF⟩ := bnd_some hF
    refine sv rfl (oc_addr cInstr hn_x9 tabOK rfl rfl rfl rfl) rfl ?_
    refine sxk 3 tabOK rfl ?_
    refine aops_nil (at_seq (at_region (sxk 2 tabOK rfl ?_)))
    obtain ⟨x10, hx10, hF⟩ := bnd_some hF
    refine call_eq (s_l10Inside_ok x9.op x10 hx10) rfl ((rlL_cons (rfl) rlL_nil)) rfl rfl ?_
    refine aops_nil (ct_b hF rfl (fun hc hF => ?_) (fun hc hF => ?_))
    ·refine at_region (sxk 3 tabOK rfl ?_)
     obtain ⟨x11, hn_x11, hF⟩ := bnd_some hF
     refine sv rfl (oc_haddr cInt hn_x11 tabOK rfl rfl rfl rfl) rfl ?_
     refine sv rfl (oc_load cInt hn_x11 tabOK rfl rfl rfl rfl) rfl ?_
     obtain ⟨hb, hF⟩ := chk_some hF
     refine s_add tabOK rfl rfl rfl hb rfl ?_
     obtain ⟨x12, hn_x12, hF⟩ := bnd_some hF
     refine sv rfl (oc_haddr cInt hn_x12 tabOK rfl rfl rfl rfl) rfl ?_
     refine sc_store cInt (v' := (x11 + 1)) hn_x12 tabOK rfl rfl rfl rfl rfl rfl rfl rfl ?_
     refine ops_le (le_slot (y := .hsl 4 0 (times7.set x9.a.toNat (x11 + 1)).length) 3 rfl (vle_eq (congrArg (V.hsl 4 0) (by simp))) rfl) ?_
     exact aops_nil (bk_n (arr_cut ⟨(times7.set x9.a.toNat (x11 + 1)), hF, (le_down (down_all (ee_cons rfl rfl (Nat.le_of_ble_eq_true rfl) (ee_cons rfl rfl (Nat.le_of_ble_eq_true rfl) (ee_cons rfl rfl (cCode.ok_psl _ rfl) (ee_cons rfl rfl rfl (ee_cons rfl rfl rfl (ee_cons rfl rfl (cInstr.ok_psl _ rfl) (ee_cons rfl rfl rfl (ee_cons rfl rfl rfl ee_nil)))))))) (he_cons rfl rfl rfl (row_one (cImage.row_ok _ rfl)) (he_cons rfl rfl rfl (cInt.rows_ok _ rfl) he_nil)) rfl rfl rfl rfl))⟩))
    ·exact at_skip (bk_n (arr_cut ⟨times7, hF, (le_down (down_all (ee_cons rfl rfl (Nat.le_of_ble_eq_true rfl) (ee_cons rfl rfl (Nat.le_of_ble_eq_true rfl) (ee_cons rfl rfl (cCode.ok_psl _ rfl) (ee_cons rfl rfl rfl (ee_cons rfl rfl rfl (ee_cons rfl rfl (cInstr.ok_psl _ rfl) (ee_cons rfl rfl rfl (ee_cons rfl rfl rfl ee_nil)))))))) (he_cons rfl rfl rfl (row_one (cImage.row_ok _ rfl)) (he_cons rfl rfl rfl (cInt.rows_ok _ rfl) he_nil)) rfl rfl rfl rfl))⟩))
   ·rintro times9 hF
    refine at_eq (s' := ⟨[(1, .ptr 3 1 0 0), (3, .hsl 4 0 times9.length), (15, .psl 0 4 (m.codes.map (cCode.enc 0))), (16, .int .i64 (m.codes.length : Int)), (17, .int .i64 x2), (22, .psl 0 6 (x5.instrs.map (cInstr.enc 0))), (23, .int .i64 (x5.instrs.length : Int)), (24, .int .i64 x6)], [(3, ⟨2, [cImage.row 0 m]⟩), (4, ⟨1, times9.map (cInt.enc 0)⟩)], 5, 56, []⟩) rfl ?_
    replace hF : s_l10Tree_J3 x6 go8 times9 = some q := hF
    unfold s_l10Tree_J3 at hF
    refine at_region ?_
    obtain ⟨hb, hF⟩ := chk_some hF
    refine s_add tabOK rfl rfl rfl hb rfl ?_
    refine sxk 1 tabOK rfl ?_
    exact aops_nil (arr_loop ⟨((x6 + 1), times9), hF, ((le_bump 6 rfl rfl).trans (le_down (down_all (ee_cons rfl rfl (Nat.le_of_ble_eq_true rfl) (ee_cons rfl rfl (Nat.le_of_ble_eq_true rfl) (ee_cons rfl rfl (cCode.ok_psl _ rfl) (ee_cons rfl rfl rfl (ee_cons rfl rfl rfl (ee_cons rfl rfl (cInstr.ok_psl _ rfl) (ee_cons rfl rfl rfl (ee_cons rfl rfl rfl ee_nil)))))))) (he_cons rfl rfl rfl (row_one (cImage.row_ok _ rfl)) (he_cons rfl rfl rfl (cInt.rows_ok _ rfl) he_nil)) rfl rfl rfl rfl)))⟩)
  ·refine at_exit (tk_x (ll_x (bk_hit (bk_n (at_region ?_)))))
   obtain ⟨hb, hF⟩ := chk_some hF
   refine s_add tabOK rfl rfl rfl hb rfl ?_
   refine sxk 1 tabOK rfl ?_
   exact aops_nil (arr_loop ⟨((x2 + 1), times7), hF, (le_down (down_all (ee_cons rfl rfl (Nat.le_of_ble_eq_true rfl) (ee_cons rfl rfl (Nat.le_of_ble_eq_true rfl) (ee_cons rfl rfl (cCode.ok_psl _ rfl) (ee_cons rfl rfl rfl (ee_cons rfl rfl rfl ee_nil))))) (he_cons rfl rfl rfl (row_one (cImage.row_ok _ rfl)) (he_cons rfl rfl rfl (cInt.rows_ok _ rfl) he_nil)) rfl rfl rfl rfl))⟩)
 ·refine at_exit (tk_x (ll_x (bk_hit (at_seq (at_seq (at_region (sxk 1 tabOK rfl ?_)))))))
  refine sv rfl (oc_hlen cInt tabOK rfl rfl rfl) rfl ?_
  refine sxk 1 tabOK rfl ?_
  refine aops_nil (at_block (cl_loop (σ := Int) (fun x5 => ⟨[(1, .ptr 3 1 0 0), (40, .hsl 4 0 times3.length), (41, .int .i64 (times3.length : Int)), (42, .int .i64 x5)], [(3, ⟨2, [cImage.row 0 m]⟩), (4, ⟨1, times3.map (cInt.enc 0)⟩)], 5, 56, []⟩) (s_l10Tree_L4 m times3) LF 0 hF (le_down (down_all (ee_cons rfl rfl (Nat.le_of_ble_eq_true rfl) (ee_cons rfl rfl (Nat.le_of_ble_eq_true rfl) (ee_cons rfl rfl rfl (ee_cons rfl rfl rfl ee_nil)))) (he_cons rfl rfl rfl (row_one (cImage.row_ok _ rfl)) (he_cons rfl rfl rfl (cInt.rows_ok _ rfl) he_nil)) rfl rfl rfl rfl)) ?_))
  rintro lk_ x5 hF
  refine at_eq (s' := ⟨[(1, .ptr 3 1 0 0), (40, .hsl 4 0 times3.length), (41, .int .i64 (times3.length : Int)), (42, .int .i64 x5)], [(3, ⟨2, [cImage.row 0 m]⟩), (4, ⟨1, times3.map (cInt.enc 0)⟩)], 5, 56, []⟩) rfl ?_
  replace hF : s_l10Tree_L4b m times3 (itr (s_l10Tree_L4 m times3) lk_) x5 = some q := hF
  unfold s_l10Tree_L4b at hF
  generalize itr (s_l10Tree_L4 m times3) lk_ = go6 at hF ⊢
  refine at_seq (at_region (sxk 1 tabOK rfl ?_))
  refine aops_nil (at_seq (ct_if hF rfl (fun hc hF => ?_) (fun hc hF => ?_)))
  ·refine at_skip (at_seq (at_block (at_seq (at_region (sxk 1 tabOK rfl ?_)))))
   obtain ⟨x7, hn_x7, hF⟩ := bnd_some hF
   refine sv rfl (oc_haddr cInt hn_x7 tabOK rfl rfl rfl rfl) rfl ?_
   refine sv rfl (oc_load cInt hn_x7 tabOK rfl rfl rfl rfl) rfl ?_
   refine sxk 2 tabOK rfl ?_
   refine aops_nil (at_seq (cl_midn (σ := Bool) (fun x8 => ⟨[(1, .ptr 3 1 0 0), (40, .hsl 4 0 times3.length), (41, .int .i64 (times3.length : Int)), (42, .int .i64 x5), (54, .bool x8)], [(3, ⟨2, [cImage.row 0 m]⟩), (4, ⟨1, times3.map (cInt.enc 0)⟩)], 5, 56, []⟩) (fun x8 => s_l10Tree_J5 x5 go6 x8 = some q) ?_ ?_))
   ·refine at_region (sxk 3 tabOK rfl ?_)
    refine ops_ifn (g := 49) hF rfl (fun hc hF => ?_) (fun hc hF => ?_)
    ·refine sxk 5 tabOK rfl ?_
     exact aops_nil (arr_cut ⟨(!decide (x5 = m.main)), hF, (le_down (down_all (ee_cons rfl rfl (Nat.le_of_ble_eq_true rfl) (ee_cons rfl rfl (Nat.le_of_ble_eq_true rfl) (ee_cons rfl rfl rfl (ee_cons rfl rfl rfl (ee_cons rfl rfl rfl ee_nil))))) (he_cons rfl rfl rfl (row_one (cImage.row_ok _ rfl)) (he_cons rfl rfl rfl (cInt.rows_ok _ rfl) he_nil)) rfl rfl rfl rfl))⟩)
    ·refine sxk 5 tabOK rfl ?_
     exact aops_nil (arr_cut ⟨false, hF, (le_down (down_all (ee_cons rfl rfl (Nat.le_of_ble_eq_true rfl) (ee_cons rfl rfl (Nat.le_of_ble_eq_true rfl) (ee_cons rfl rfl rfl (ee_cons rfl rfl rfl (ee_cons rfl rfl rfl ee_nil))))) (he_cons rfl rfl rfl (row_one (cImage.row_ok _ rfl)) (he_cons rfl rfl rfl (cInt.rows_ok _ rfl) he_nil)) rfl rfl rfl rfl))⟩)
   ·rintro x8 hF
    refine at_eq (s' := ⟨[(1, .ptr 3 1 0 0), (40, .hsl 4 0 times3.length), (41, .int .i64 (times3.length : Int)), (42, .int .i64 x5), (54, .bool x8)], [(3, ⟨2, [cImage.row 0 m]⟩), (4, ⟨1, times3.map (cInt.enc 0)⟩)], 5, 56, []⟩) rfl ?_
    replace hF : s_l10Tree_J5 x5 go6 x8 = some q := hF
    unfold s_l10Tree_J5 at hF
    refine ct_b hF rfl (fun hc hF => ?_) (fun hc hF => ?_)
    ·refine at_seq (at_region (sxk 1 tabOK rfl ?_))
     refine aops_nil (at_ret (bk_r (tk_r (ll_r (bk_r (tk_r ?_))))))
     obtain rfl := Option.some.inj hF
     refine ret_le rfl ?_
     exact (vle_refl _)
    ·refine at_skip (bk_n (at_region ?_))
     obtain ⟨hb, hF⟩ := chk_some hF
     refine s_add tabOK rfl rfl rfl hb rfl ?_
     refine sxk 1 tabOK rfl ?_
     exact aops_nil (arr_loop ⟨(x5 + 1), hF, (le_down (down_all (ee_cons rfl rfl (Nat.le_of_ble_eq_true rfl) (ee_cons rfl rfl (Nat.le_of_ble_eq_true rfl) (ee_cons rfl rfl rfl (ee_cons rfl rfl rfl ee_nil)))) (he_cons rfl rfl rfl (row_one (cImage.row_ok _ rfl)) (he_cons rfl rfl rfl (cInt.rows_ok _ rfl) he_nil)) rfl rfl rfl rfl))⟩)
  ·refine at_exit (tk_x (ll_x (bk_hit (at_seq (at_region (sxk 1 tabOK rfl ?_))))))
   refine aops_nil (at_ret ?_)
   obtain rfl := Option.some.inj hF
   refine ret_le rfl ?_
   exact (vle_refl _)

theorem s_IsImage_ok (m : PImage) (captures : Int) (q : Bool) (hF : s_IsImage m captures = some q) : FC Tryd.prog 23 [.agg (cImage.row 0 m), .int .i64 captures] [] 3 (fun x _ => x = .bool q) := by
 refine FC.of_le ?_
 refine fc_body tabOK Tryd.func23 rfl Tryd.ntmps23 rfl rfl rfl ?_
 unfold s_IsImage at hF
 refine at_seq (at_region (sxk 2 tabOK rfl ?_))
 refine aops_nil (at_seq (at_seq (at_region (sxk 2 tabOK rfl ?_))))
 refine sv rfl (oc_len cCode tabOK rfl rfl rfl) rfl ?_
 obtain ⟨x3, hx3, hF⟩ := bnd_some hF
 refine call_eq (s_l1In_ok (m.codes.length : Int) 1 1500 x3 hx3) rfl ((rlL_cons (rfl) (rlL_cons (rfl) (rlL_cons (rfl) rlL_nil)))) rfl rfl ?_
 refine sxk 2 tabOK rfl ?_
 refine ops_ifnb (g := 14) hF rfl (fun hc hF => ?_) (fun hc hF => ?_)
 ·refine sxk 29 tabOK rfl ?_
  refine aops_nil (at_true rfl (at_seq (at_keep [] rfl ?_)))
  refine at_region (sxk 1 tabOK rfl ?_)
  refine aops_nil (at_ret (tk_r ?_))
  obtain rfl := Option.some.inj hF
  refine ret_le rfl ?_
  exact (vle_refl _)
 ·refine sxk 4 tabOK rfl ?_
  refine sv rfl (oc_len cCode tabOK rfl rfl rfl) rfl ?_
  obtain ⟨hb, hF⟩ := chk_some hF
  refine s_sub tabOK rfl rfl rfl hb rfl ?_
  refine sxk 3 tabOK rfl ?_
  refine ops_ifn (g := 23) hF rfl (fun hc hF => ?_) (fun hc hF => ?_)
  ·refine sxk 20 tabOK rfl ?_
   refine aops_nil (at_true rfl (at_seq (at_keep [] rfl ?_)))
   refine at_region (sxk 1 tabOK rfl ?_)
   refine aops_nil (at_ret (tk_r ?_))
   obtain rfl := Option.some.inj hF
   refine ret_le rfl ?_
   exact (vle_refl _)
  ·refine sxk 4 tabOK rfl ?_
   obtain ⟨x4, hn_x4, hF⟩ := bnd_some hF
   refine sv rfl (oc_addr cCode hn_x4 tabOK rfl rfl rfl rfl) rfl ?_
   refine sxk 5 tabOK rfl ?_
   refine ops_ifn (g := 33) hF rfl (fun hc hF => ?_) (fun hc hF => ?_)
   ·refine sxk 10 tabOK rfl ?_
    refine aops_nil (at_true rfl (at_seq (at_keep [] rfl ?_)))
    refine at_region (sxk 1 tabOK rfl ?_)
    refine aops_nil (at_ret (tk_r ?_))
    obtain rfl := Option.some.inj hF
    refine ret_le rfl ?_
    exact (vle_refl _)
   ·refine sxk 4 tabOK rfl ?_
    obtain ⟨x5, hn_x5, hF⟩ := bnd_some hF
    refine sv rfl (oc_addr cCode hn_x5 tabOK rfl rfl rfl rfl) rfl ?_
    refine sxk 5 tabOK rfl ?_
    refine aops_nil (ct_ifn hF rfl (fun hc hF => ?_) (fun hc hF => ?_))
    ·refine at_seq (at_keep [] rfl ?_)
     refine at_region (sxk 1 tabOK rfl ?_)
     refine aops_nil (at_ret (tk_r ?_))
     obtain rfl := Option.some.inj hF
     refine ret_le rfl ?_
     exact (vle_refl _)
    ·refine at_skip (at_seq (at_keep [2] rfl ?_))
     refine at_region (sxk 1 tabOK rfl ?_)
     refine aops_nil (at_seq (at_seq (at_region (sxk 2 tabOK rfl ?_))))
     refine sv rfl (oc_len cCode tabOK rfl rfl rfl) rfl ?_
     refine sxk 1 tabOK rfl ?_
     refine aops_nil (at_block (cl_loop (σ := Int × Int) (fun v => match v with | (x6, x7) => ⟨[(2, .ptr 3 1 0 0), (5, .int .i64 x6), (46, .int .i64 (m.codes.length : Int)), (47, .int .i64 x7)], [(3, ⟨2, [cImage.row 0 m]⟩)], 4, 78, []⟩) (s_IsImage_L1 m) LF (0, 0) hF (le_down (down_all (ee_cons rfl rfl (Nat.le_of_ble_eq_true rfl) (ee_cons rfl rfl rfl (ee_cons rfl rfl rfl (ee_cons rfl rfl rfl ee_nil)))) (he_cons rfl rfl rfl (row_one (cImage.row_ok _ rfl)) he_nil) rfl rfl rfl rfl)) ?_))
     rintro lk_ ⟨x6, x7⟩ hF
     refine at_eq (s' := ⟨[(2, .ptr 3 1 0 0), (5, .int .i64 x6), (46, .int .i64 (m.codes.length : Int)), (47, .int .i64 x7)], [(3, ⟨2, [cImage.row 0 m]⟩)], 4, 78, []⟩) rfl ?_
     replace hF : s_IsImage_L1b m (itr (s_IsImage_L1 m) lk_) x6 x7 = some q := hF
     unfold s_IsImage_L1b at hF
     generalize itr (s_IsImage_L1 m) lk_ = go8 at hF ⊢
     refine at_seq (at_region (sxk 1 tabOK rfl ?_))
     refine aops_nil (at_seq (ct_if hF rfl (fun hc hF => ?_) (fun hc hF => ?_)))
     ·refine at_skip (at_seq (at_block (at_seq (at_region (sxk 2 tabOK rfl ?_)))))
      refine aops_nil (at_seq (at_seq (at_region (sxk 2 tabOK rfl ?_))))
      obtain ⟨x9, hx9, hF⟩ := bnd_some hF
      refine call_eq (s_l10Code_ok m x7 x9 hx9) rfl ((rlL_cons (cImage.rl_agg (l := 0) (l' := 0) _ m rfl) (rlL_cons (rfl) rlL_nil))) rfl rfl ?_
      refine sxk 1 tabOK rfl ?_
      refine aops_nil (ct_bn hF rfl (fun hc hF => ?_) (fun hc hF => ?_))
      ·refine at_seq (at_keep [] rfl ?_)
       refine at_region (sxk 1 tabOK rfl ?_)
       refine aops_nil (at_ret (tk_r (bk_r (tk_r (ll_r (bk_r (tk_r ?_)))))))
       obtain rfl := Option.some.inj hF
       refine ret_le rfl ?_
       exact (vle_refl _)
      ·refine at_skip (at_seq (at_seq (at_region (sxk 2 tabOK rfl ?_))))
       obtain ⟨x10, hx10, hF⟩ := bnd_some hF
       refine call_eq (s_l10Depths_ok m x7 x10 hx10) rfl ((rlL_cons (cImage.rl_agg (l := 0) (l' := 0) _ m rfl) (rlL_cons (rfl) rlL_nil))) (rl_tupL (rlL_cons (cInt.rl_psl (l := 1) (l' := 1) _ x10.1 rfl) (rlL_cons (rfl) rlL_nil))) rfl ?_
       refine sxk 5 tabOK rfl ?_
       refine aops_nil (at_seq (at_keep [2, 5, 6, 8, 46, 47] rfl ?_))
       refine at_region (sxk 2 tabOK rfl ?_)
       refine aops_nil (ct_bn hF rfl (fun hc hF => ?_) (fun hc hF => ?_))
       ·refine at_seq (at_keep [] rfl ?_)
        refine at_region (sxk 1 tabOK rfl ?_)
        refine aops_nil (at_ret (tk_r (bk_r (tk_r (ll_r (bk_r (tk_r ?_)))))))
        obtain rfl := Option.some.inj hF
        refine ret_le rfl ?_
        exact (vle_refl _)
       ·refine at_skip (at_region (sxk 4 tabOK rfl ?_))
        obtain ⟨x11, hn_x11, hF⟩ := bnd_some hF
        refine sv rfl (oc_addr cCode hn_x11 tabOK rfl rfl rfl rfl) rfl ?_
        refine sxk 2 tabOK rfl ?_
        refine sv rfl (oc_len cInstr tabOK rfl rfl rfl) rfl ?_
        obtain ⟨hb, hF⟩ := chk_some hF
        refine s_add tabOK rfl rfl rfl hb rfl ?_
        refine sxk 1 tabOK rfl ?_
        refine aops_nil (bk_n (at_keep [2, 5, 46, 47] rfl ?_))
        refine at_region ?_
        obtain ⟨hb, hF⟩ := chk_some hF
        refine s_add tabOK rfl rfl rfl hb rfl ?_
        refine sxk 1 tabOK rfl ?_
        exact aops_nil (arr_loop ⟨((x6 + (x11.instrs.length : Int)), (x7 + 1)), hF, (le_down (down_all (ee_cons rfl rfl (Nat.le_of_ble_eq_true rfl) (ee_cons rfl rfl rfl (ee_cons rfl rfl rfl (ee_cons rfl rfl rfl ee_nil)))) (he_cons rfl rfl rfl (row_one (cImage.row_ok _ rfl)) he_nil) rfl rfl rfl rfl))⟩)
     ·refine at_exit (tk_x (ll_x (bk_hit (at_seq (at_region (sxk 3 tabOK rfl ?_))))))
      refine ops_if (g := 74) hF rfl (fun hc hF => ?_) (fun hc hF => ?_)
      ·refine sxk 1 tabOK rfl ?_
       obtain ⟨x9, hx9, hF⟩ := bnd_some hF
       refine call_eq (s_l10Tree_ok m x9 hx9) rfl ((rlL_cons (cImage.rl_agg (l := 0) (l' := 0) _ m rfl) rlL_nil)) rfl rfl ?_
       refine sxk 2 tabOK rfl ?_
       refine aops_nil (at_ret ?_)
       obtain rfl := Option.some.inj hF
       refine ret_le rfl ?_
       exact (vle_refl _)
      ·refine sxk 4 tabOK rfl ?_
       refine aops_nil (at_ret ?_)
       obtain rfl := Option.some.inj hF
       refine ret_le rfl ?_
       exact (vle_refl _)

theorem s_l10Own_ok (m : PImage) (q : Bool) (hF : s_l10Own m = some q) : FC Tryd.prog 14 [.agg (cImage.row 0 m)] [] 3 (fun x _ => x = .bool q) := by
 refine FC.of_le ?_
 refine fc_body tabOK Tryd.func14 rfl Tryd.ntmps14 rfl rfl rfl ?_
 unfold s_l10Own at hF
 refine at_seq (at_region (sxk 2 tabOK rfl ?_))
 refine aops_nil (at_seq (at_drawnM (id := 1) 15 (by kernel_rfl) (by kernel_rfl) ?_))
 refine nx tabOK rfl ?_
 refine nx tabOK rfl ?_
 refine nv rfl (oc_len cCode tabOK rfl rfl rfl) rfl ?_
 refine nx tabOK rfl ?_
 refine nx tabOK rfl ?_
 refine dn_if (g := 7) hF rfl (fun hc hF => ?_) (fun hc hF => ?_)
 ·refine nx tabOK rfl ?_
  refine nx tabOK rfl ?_
  refine nx tabOK rfl ?_
  refine nx tabOK rfl ?_
  refine nx tabOK rfl ?_
  refine nv rfl (oc_len cCode tabOK rfl rfl rfl) rfl ?_
  obtain ⟨hb, hF⟩ := chk_some hF
  refine nv rfl (ov_sub tabOK rfl rfl hb) rfl ?_
  obtain ⟨x2, hn_x2, hF⟩ := bnd_some hF
  refine nv rfl (oc_addr cCode hn_x2 tabOK rfl rfl rfl rfl) rfl ?_
  refine nx tabOK rfl ?_
  refine nx tabOK rfl ?_
  refine dn_nil rfl ?_
  obtain ⟨x3, hx3, hF⟩ := bnd_some hF
  refine call_eq (s_IsImage_ok m x2.captures x3 hx3) rfl ((rlL_cons (cImage.rl_agg (l := 0) (l' := 0) _ m rfl) (rlL_cons (rfl) rlL_nil))) rfl rfl ?_
  refine sxk 2 tabOK rfl ?_
  refine aops_nil (at_ret ?_)
  obtain rfl := Option.some.inj hF
  refine ret_le rfl ?_
  exact (vle_refl _)
 ·refine nx tabOK rfl ?_
  refine nx tabOK rfl ?_
  refine nx tabOK rfl ?_
  refine nx tabOK rfl ?_
  refine nx tabOK rfl ?_
  refine nx tabOK rfl ?_
  refine nx tabOK rfl ?_
  refine nx tabOK rfl ?_
  refine nx tabOK rfl ?_
  refine nx tabOK rfl ?_
  refine dn_nil rfl (sxk 3 tabOK rfl ?_)
  refine aops_nil (at_ret ?_)
  obtain rfl := Option.some.inj hF
  refine ret_le rfl ?_
  exact (vle_refl _)

theorem s_l10Lines_ok (m : PImage) (q : List (List UInt8)) (hF : s_l10Lines m = some q) : FC Tryd.prog 15 [.agg (cImage.row 0 m)] [] 3 (fun x _ => x = .psl 1 1 (q.map (cStr.enc 1))) := by
 refine FC.of_le ?_
 refine fc_body tabOK Tryd.func15 rfl Tryd.ntmps15 rfl rfl rfl ?_
 unfold s_l10Lines at hF
 refine at_seq (at_region (sxk 2 tabOK rfl ?_))
 refine aops_nil (at_seq (at_region (sc_slit cStr (l := 0) ([] : List (List UInt8)) tabOK rfl rfl rfl rfl rfl rfl rfl ?_)))
 refine sxk 1 tabOK rfl ?_
 refine aops_nil (at_seq (at_seq (at_region (sxk 2 tabOK rfl ?_))))
 refine sv rfl (oc_len cCode tabOK rfl rfl rfl) rfl ?_
 refine sxk 1 tabOK rfl ?_
 refine aops_nil (at_block (cl_loop (σ := Int × List (List UInt8)) (fun v => match v with | (x2, out3) => ⟨[(3, .hsl 4 0 out3.length), (10, .psl 0 4 (m.codes.map (cCode.enc 0))), (11, .int .i64 (m.codes.length : Int)), (12, .int .i64 x2)], [(4, ⟨1, out3.map (cStr.enc 0)⟩)], 5, 48, []⟩) (s_l10Lines_L1 m) LF (0, ([] : List (List UInt8))) hF (le_down (down_all (ee_cons rfl rfl (Nat.le_of_ble_eq_true rfl) (ee_cons rfl rfl (cCode.ok_psl _ rfl) (ee_cons rfl rfl rfl (ee_cons rfl rfl rfl ee_nil)))) (he_cons rfl rfl rfl (cStr.rows_ok _ rfl) he_nil) rfl rfl rfl rfl)) ?_))
 rintro lk_ ⟨x2, out3⟩ hF
 refine at_eq (s' := ⟨[(3, .hsl 4 0 out3.length), (10, .psl 0 4 (m.codes.map (cCode.enc 0))), (11, .int .i64 (m.codes.length : Int)), (12, .int .i64 x2)], [(4, ⟨1, out3.map (cStr.enc 0)⟩)], 5, 48, []⟩) rfl ?_
 replace hF : s_l10Lines_L1b m (itr (s_l10Lines_L1 m) lk_) x2 out3 = some q := hF
 unfold s_l10Lines_L1b at hF
 generalize itr (s_l10Lines_L1 m) lk_ = go4 at hF ⊢
 refine at_seq (at_region (sxk 1 tabOK rfl ?_))
 refine aops_nil (at_seq (ct_if hF rfl (fun hc hF => ?_) (fun hc hF => ?_)))
 ·refine at_skip (at_seq (at_block (at_seq (at_region ?_))))
  obtain ⟨x5, hn_x5, hF⟩ := bnd_some hF
  refine sv rfl (oc_addr cCode hn_x5 tabOK rfl rfl rfl rfl) rfl ?_
  refine sxk 3 tabOK rfl ?_
  refine aops_nil (at_seq (at_drawnM (id := 5) 16 (by kernel_rfl) (by kernel_rfl) ?_))
  refine nx tabOK rfl ?_
  refine nx tabOK rfl ?_
  refine nx tabOK rfl ?_
  obtain ⟨x6, hx6, hF⟩ := bnd_some hF
  refine n_call (s_FormatNumber_ok x5.params x6 hx6) rfl ((rlL_cons (rfl) rlL_nil)) rfl rfl ?_
  obtain ⟨hb, hF⟩ := chk_some hF
  refine nv rfl (ov_cat rfl rfl hb) rfl ?_
  obtain ⟨hb, hF⟩ := chk_some hF
  refine nv rfl (ov_cat rfl rfl hb) rfl ?_
  refine nx tabOK rfl ?_
  refine nx tabOK rfl ?_
  obtain ⟨x7, hx7, hF⟩ := bnd_some hF
  refine n_call (s_FormatNumber_ok x5.slots x7 hx7) rfl ((rlL_cons (rfl) rlL_nil)) rfl rfl ?_
  obtain ⟨hb, hF⟩ := chk_some hF
  refine nv rfl (ov_cat rfl rfl hb) rfl ?_
  obtain ⟨hb, hF⟩ := chk_some hF
  refine nv rfl (ov_cat rfl rfl hb) rfl ?_
  refine nx tabOK rfl ?_
  refine nx tabOK rfl ?_
  obtain ⟨x8, hx8, hF⟩ := bnd_some hF
  refine n_call (s_FormatNumber_ok x5.captures x8 hx8) rfl ((rlL_cons (rfl) rlL_nil)) rfl rfl ?_
  obtain ⟨hb, hF⟩ := chk_some hF
  refine nv rfl (ov_cat rfl rfl hb) rfl ?_
  refine n_slit cStr (l := 0) ([(((((([99, 111, 100, 101, 32] : List UInt8) ++ x6) ++ ([32] : List UInt8)) ++ x7) ++ ([32] : List UInt8)) ++ x8)] : List (List UInt8)) tabOK rfl rfl rfl rfl rfl rfl rfl ?_
  refine dn_nil rfl ?_
  obtain ⟨hb, hF⟩ := chk_some hF
  refine sc_append cStr (l := 0) (xs := out3) (ys := ([(((((([99, 111, 100, 101, 32] : List UInt8) ++ x6) ++ ([32] : List UInt8)) ++ x7) ++ ([32] : List UInt8)) ++ x8)] : List (List UInt8))) hb rfl tabOK rfl rfl rfl rfl rfl rfl rfl (srcC_hsl cStr rfl rfl rfl) rfl ?_
  refine sxk 1 tabOK rfl ?_
  refine aops_nil (at_seq (at_keep [3, 5, 10, 11, 12] rfl ?_))
  refine at_region (sxk 2 tabOK rfl ?_)
  refine sv rfl (oc_len cInstr tabOK rfl rfl rfl) rfl ?_
  refine sxk 1 tabOK rfl ?_
  refine aops_nil (at_block (cl_loop (σ := Int × List (List UInt8)) (fun v => match v with | (x9, out10) => ⟨[(3, .hsl 4 0 out10.length), (10, .psl 0 4 (m.codes.map (cCode.enc 0))), (11, .int .i64 (m.codes.length : Int)), (12, .int .i64 x2), (34, .psl 0 6 (x5.instrs.map (cInstr.enc 0))), (35, .int .i64 (x5.instrs.length : Int)), (36, .int .i64 x9)], [(4, ⟨1, out10.map (cStr.enc 0)⟩)], 7, 48, []⟩) (s_l10Lines_L2 x2 go4 x5) LF (0, (out3 ++ ([(((((([99, 111, 100, 101, 32] : List UInt8) ++ x6) ++ ([32] : List UInt8)) ++ x7) ++ ([32] : List UInt8)) ++ x8)] : List (List UInt8)))) hF (le_down (down_all (ee_cons rfl rfl (Nat.le_of_ble_eq_true rfl) (ee_cons rfl rfl (cCode.ok_psl _ rfl) (ee_cons rfl rfl rfl (ee_cons rfl rfl rfl (ee_cons rfl rfl (cInstr.ok_psl _ rfl) (ee_cons rfl rfl rfl (ee_cons rfl rfl rfl ee_nil))))))) (he_cons rfl rfl rfl (cStr.rows_ok _ rfl) he_nil) rfl rfl rfl rfl)) ?_))
  rintro lk_ ⟨x9, out10⟩ hF
  refine at_eq (s' := ⟨[(3, .hsl 4 0 out10.length), (10, .psl 0 4 (m.codes.map (cCode.enc 0))), (11, .int .i64 (m.codes.length : Int)), (12, .int .i64 x2), (34, .psl 0 6 (x5.instrs.map (cInstr.enc 0))), (35, .int .i64 (x5.instrs.length : Int)), (36, .int .i64 x9)], [(4, ⟨1, out10.map (cStr.enc 0)⟩)], 7, 48, []⟩) rfl ?_
  replace hF : s_l10Lines_L2b x2 go4 x5 (itr (s_l10Lines_L2 x2 go4 x5) lk_) x9 out10 = some q := hF
  unfold s_l10Lines_L2b at hF
  generalize itr (s_l10Lines_L2 x2 go4 x5) lk_ = go11 at hF ⊢
  refine at_seq (at_region (sxk 1 tabOK rfl ?_))
  refine aops_nil (at_seq (ct_if hF rfl (fun hc hF => ?_) (fun hc hF => ?_)))
  ·refine at_skip (at_seq (at_block (at_seq (at_region ?_))))
   obtain ⟨x12, hn_x12, hF⟩ := bnd_some hF
   refine sv rfl (oc_addr cInstr hn_x12 tabOK rfl rfl rfl rfl) rfl ?_
   refine sxk 3 tabOK rfl ?_
   refine aops_nil (at_region (sxk 2 tabOK rfl ?_))
   obtain ⟨x13, hx13, hF⟩ := bnd_some hF
   refine call_eq (s_FormatInstr_ok x12 x13 hx13) rfl ((rlL_cons (cInstr.rl_agg (l := 0) (l' := 0) _ x12 rfl) rlL_nil)) rfl rfl ?_
   refine sc_slit cStr (l := 0) ([x13] : List (List UInt8)) tabOK rfl rfl rfl rfl rfl rfl rfl ?_
   obtain ⟨hb, hF⟩ := chk_some hF
   refine sc_append cStr (l := 0) (xs := out10) (ys := ([x13] : List (List UInt8))) hb rfl tabOK rfl rfl rfl rfl rfl rfl rfl (srcC_hsl cStr rfl rfl rfl) rfl ?_
   refine sxk 1 tabOK rfl ?_
   refine aops_nil (bk_n (at_keep [3, 10, 11, 12, 34, 35, 36] rfl ?_))
   refine at_region ?_
   obtain ⟨hb, hF⟩ := chk_some hF
   refine s_add tabOK rfl rfl rfl hb rfl ?_
   refine sxk 1 tabOK rfl ?_
   exact aops_nil (arr_loop ⟨((x9 + 1), (out10 ++ ([x13] : List (List UInt8)))), hF, (le_down (down_all (ee_cons rfl rfl (Nat.le_of_ble_eq_true rfl) (ee_cons rfl rfl (cCode.ok_psl _ rfl) (ee_cons rfl rfl rfl (ee_cons rfl rfl rfl (ee_cons rfl rfl (cInstr.ok_psl _ rfl) (ee_cons rfl rfl rfl (ee_cons rfl rfl rfl ee_nil))))))) (he_cons rfl rfl rfl (cStr.rows_ok _ rfl) he_nil) rfl rfl rfl rfl))⟩)
  ·refine at_exit (tk_x (ll_x (bk_hit (bk_n (at_region ?_)))))
   obtain ⟨hb, hF⟩ := chk_some hF
   refine s_add tabOK rfl rfl rfl hb rfl ?_
   refine sxk 1 tabOK rfl ?_
   exact aops_nil (arr_loop ⟨((x2 + 1), out10), hF, (le_down (down_all (ee_cons rfl rfl (Nat.le_of_ble_eq_true rfl) (ee_cons rfl rfl (cCode.ok_psl _ rfl) (ee_cons rfl rfl rfl (ee_cons rfl rfl rfl ee_nil)))) (he_cons rfl rfl rfl (cStr.rows_ok _ rfl) he_nil) rfl rfl rfl rfl))⟩)
 ·refine at_exit (tk_x (ll_x (bk_hit (at_seq (at_region (sxk 2 tabOK rfl ?_))))))
  refine aops_nil (at_le (le_freeze 2 rfl rfl (by simp) rfl) ?_)
  refine at_ret ?_
  obtain rfl := Option.some.inj hF
  refine ret_le rfl ?_
  exact (vle_refl _)

theorem s_FormatImage_ok (m : PImage) (q : List (List UInt8)) (hF : s_FormatImage m = some q) : FC Tryd.prog 5 [.agg (cImage.row 0 m)] [] 3 (fun x _ => x = .psl 1 1 (q.map (cStr.enc 1))) := by
 refine FC.of_le ?_
 refine fc_body tabOK Tryd.func5 rfl Tryd.ntmps5 rfl rfl rfl ?_
 unfold s_FormatImage at hF
 refine at_seq (at_region (sxk 2 tabOK rfl ?_))
 refine aops_nil (at_seq (at_seq (at_region (sxk 1 tabOK rfl ?_))))
 obtain ⟨x2, hx2, hF⟩ := bnd_some hF
 refine call_eq (s_l10Own_ok m x2 hx2) rfl ((rlL_cons (cImage.rl_agg (l := 0) (l' := 0) _ m rfl) rlL_nil)) rfl rfl ?_
 refine sxk 1 tabOK rfl ?_
 refine aops_nil (ct_bn hF rfl (fun hc hF => ?_) (fun hc hF => ?_))
 ·refine at_seq (at_region (sxk 1 tabOK rfl ?_))
  refine aops_nil (at_ret (tk_r ?_))
  obtain rfl := Option.some.inj hF
  refine ret_le rfl ?_
  exact (vle_nil _ _)
 ·refine at_skip (at_seq (at_region (sxk 1 tabOK rfl ?_)))
  obtain ⟨x3, hx3, hF⟩ := bnd_some hF
  refine call_eq (s_l10Lines_ok m x3 hx3) rfl ((rlL_cons (cImage.rl_agg (l := 0) (l' := 0) _ m rfl) rlL_nil)) (cStr.rl_psl (l := 1) (l' := 1) _ x3 rfl) rfl ?_
  refine sxk 1 tabOK rfl ?_
  refine aops_nil (at_ret ?_)
  obtain rfl := Option.some.inj hF
  refine ret_le rfl ?_
  exact (vle_refl _)

end Go.Proofs.YtmgigglpdhoneaaDoor
