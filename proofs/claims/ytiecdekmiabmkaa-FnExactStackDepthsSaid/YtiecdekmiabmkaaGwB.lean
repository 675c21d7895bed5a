/-
  Walks, made by wip/gen: B
-/
import Derived.Test.YtiecdekmiabmkaaGpB
import Derived.Test.YtiecdekmiabmkaaGwA
set_option linter.unusedVariables false
set_option linter.unusedSimpArgs false
namespace Go.Proofs.Ytiecdekmiabmkaa
open Go.Abs
attribute [local irreducible] AT AOps FC DR DN
set_option maxRecDepth 10000
set_option maxHeartbeats 4000000

theorem i_StackDepths_ok (m : PImage) (code : Int) (q : List Int × Bool) (hF : i_StackDepths m code = some q) : FC Try.prog 44 [.agg (cImage.row 0 m), .int .i64 code] [] 3 (fun x _ => x = .tup [.psl 1 1 (q.1.map (cInt.enc 1)), .bool q.2]) := by
  refine FC.of_le ?_
  refine fc_body tabOK Try.func44 rfl Try.ntmps44 rfl rfl rfl ?_
  unfold i_StackDepths at hF
  refine at_seq ?_
  refine at_region ?_
  refine sxk 3 tabOK rfl ?_
  refine aops_nil ?_
  refine at_seq ?_
  refine at_seq ?_
  refine at_region ?_
  refine sxk 3 tabOK rfl ?_
  refine ops_if (g := 9) hF rfl (fun hc hF => ?_) (fun hc hF => ?_)
  · refine sxk 6 tabOK rfl ?_
    refine aops_nil ?_
    refine at_true rfl ?_
    refine at_seq ?_
    refine at_keep [] rfl ?_
    refine at_region ?_
    refine sxk 2 tabOK rfl ?_
    refine aops_nil ?_
    refine at_ret ?_
    refine tk_r ?_
    obtain rfl := Option.some.inj hF
    refine ret_le rfl ?_
    exact (vle_tup (.cons (vle_nil _ _) (.cons (vle_refl _) .nil)))
  · refine sxk 3 tabOK rfl ?_
    refine sv rfl (oc_len cCode tabOK rfl rfl rfl) rfl ?_
    refine sxk 2 tabOK rfl ?_
    refine aops_nil ?_
    refine ct_if hF rfl (fun hc hF => ?_) (fun hc hF => ?_)
    · refine at_seq ?_
      refine at_keep [] rfl ?_
      refine at_region ?_
      refine sxk 2 tabOK rfl ?_
      refine aops_nil ?_
      refine at_ret ?_
      refine tk_r ?_
      obtain rfl := Option.some.inj hF
      refine ret_le rfl ?_
      exact (vle_tup (.cons (vle_nil _ _) (.cons (vle_refl _) .nil)))
    · refine at_skip ?_
      refine at_seq ?_
      refine at_seq ?_
      refine at_keep [1, 2] rfl ?_
      refine at_region ?_
      refine sxk 1 tabOK rfl ?_
      refine aops_nil ?_
      refine at_block ?_
      refine cl_loop (σ := Int) (fun k3 => ⟨[(1, .int .i64 code), (2, .ptr 3 1 0 0), (6, .int .i64 k3)], [(3, ⟨2, [cImage.row 0 m]⟩)], 4, 30, []⟩) (i_StackDepths_L1 m code) LF 0 hF (le_down (down_all (ee_cons rfl rfl rfl (ee_cons rfl rfl (Nat.le_of_ble_eq_true rfl) (ee_cons rfl rfl rfl ee_nil))) (he_cons rfl rfl rfl (row_one (cImage.row_ok _ rfl)) he_nil) rfl rfl rfl rfl)) ?_
      rintro lk_ k3 hF
      refine at_eq (s' := ⟨[(1, .int .i64 code), (2, .ptr 3 1 0 0), (6, .int .i64 k3)], [(3, ⟨2, [cImage.row 0 m]⟩)], 4, 30, []⟩) rfl ?_
      replace hF : i_StackDepths_L1b m code (itr (i_StackDepths_L1 m code) lk_) k3 = some q := hF
      unfold i_StackDepths_L1b at hF
      generalize itr (i_StackDepths_L1 m code) lk_ = go4 at hF ⊢
      refine at_seq ?_
      refine at_seq ?_
      refine at_region ?_
      refine sxk 3 tabOK rfl ?_
      refine aops_nil ?_
      refine ct_if hF rfl (fun hc hF => ?_) (fun hc hF => ?_)
      · refine at_skip ?_
        refine at_seq ?_
        refine at_block ?_
        refine at_seq ?_
        refine at_region ?_
        refine sxk 2 tabOK rfl ?_
        obtain ⟨x5, hx5, hF⟩ := bnd_some hF
        refine call_eq (i_codeOk_ok m k3 x5 hx5) rfl ((rlL_cons (cImage.rl_agg (l := 0) (l' := 0) _ m rfl) (rlL_cons (rfl) rlL_nil))) rfl rfl ?_
        refine sxk 1 tabOK rfl ?_
        refine aops_nil ?_
        refine ct_bn hF rfl (fun hc hF => ?_) (fun hc hF => ?_)
        · refine at_seq ?_
          refine at_keep [] rfl ?_
          refine at_region ?_
          refine sxk 2 tabOK rfl ?_
          refine aops_nil ?_
          refine at_ret ?_
          refine bk_r ?_
          refine tk_r ?_
          refine ll_r ?_
          refine bk_r ?_
          refine tk_r ?_
          obtain rfl := Option.some.inj hF
          refine ret_le rfl ?_
          exact (vle_tup (.cons (vle_nil _ _) (.cons (vle_refl _) .nil)))
        · refine at_skip ?_
          refine bk_n ?_
          refine at_keep [1, 2, 6] rfl ?_
          refine at_region ?_
          refine sxk 1 tabOK rfl ?_
          obtain ⟨hb, hF⟩ := chk_some hF
          refine s_add tabOK rfl rfl rfl hb rfl ?_
          refine sxk 1 tabOK rfl ?_
          refine aops_nil ?_
          exact arr_loop ⟨(k3 + 1), hF, (le_down (down_all (ee_cons rfl rfl rfl (ee_cons rfl rfl (Nat.le_of_ble_eq_true rfl) (ee_cons rfl rfl rfl ee_nil))) (he_cons rfl rfl rfl (row_one (cImage.row_ok _ rfl)) he_nil) rfl rfl rfl rfl))⟩
      · refine at_exit ?_
        refine tk_x ?_
        refine ll_x ?_
        refine bk_hit ?_
        refine at_seq ?_
        refine at_region ?_
        refine sxk 2 tabOK rfl ?_
        obtain ⟨x5, hx5, hF⟩ := bnd_some hF
        refine call_eq (i_depthsOf_ok m code x5 hx5) rfl ((rlL_cons (cImage.rl_agg (l := 0) (l' := 0) _ m rfl) (rlL_cons (rfl) rlL_nil))) (rl_tupL (rlL_cons (cInt.rl_psl (l := 1) (l' := 1) _ x5.1 rfl) (rlL_cons (rfl) rlL_nil))) rfl ?_
        refine sxk 4 tabOK rfl ?_
        refine aops_nil ?_
        refine at_ret ?_
        obtain rfl := Option.some.inj hF
        refine ret_le rfl ?_
        exact (vle_tup (.cons (vle_refl _) (.cons (vle_refl _) .nil)))

theorem i_depthsOf_own (m : PImage) (code : Int) (q : List Int × Bool) (hF : i_depthsOf m code = some q) : FC Try.prog 85 [.agg (cImage.row 0 m), .int .i64 code] [] 3 (fun x h2 => ∃ j, x = .tup [.hsl j 0 q.1.length, .bool q.2] ∧ hget h2 j = some ⟨1, q.1.map (cInt.enc 0)⟩) := by
  refine fc_body tabOK Try.func85 rfl Try.ntmps85 rfl rfl rfl ?_
  unfold i_depthsOf at hF
  refine at_seq ?_
  refine at_region ?_
  refine sxk 3 tabOK rfl ?_
  refine aops_nil ?_
  refine at_seq ?_
  refine at_region ?_
  refine sxk 3 tabOK rfl ?_
  obtain ⟨x3, hn_x3, hF⟩ := bnd_some hF
  refine sv rfl (oc_addr cCode hn_x3 tabOK rfl rfl rfl rfl) rfl ?_
  refine sxk 3 tabOK rfl ?_
  refine aops_nil ?_
  refine at_seq ?_
  refine at_keep [2, 6] rfl ?_
  refine at_region ?_
  refine sxk 1 tabOK rfl ?_
  refine sv rfl (oc_len cInstr tabOK rfl rfl rfl) rfl ?_
  obtain ⟨hb, hF⟩ := chk_some hF
  refine sc_make cInt (l := 0) (v := (0 : Int)) hb tabOK rfl rfl rfl rfl (vleL_refl _) rfl rfl rfl rfl ?_
  refine sxk 1 tabOK rfl ?_
  refine aops_nil ?_
  refine at_seq ?_
  refine at_seq ?_
  refine at_region ?_
  refine sxk 1 tabOK rfl ?_
  refine sv rfl (oc_hlen cInt tabOK rfl rfl rfl) rfl ?_
  refine sxk 1 tabOK rfl ?_
  refine aops_nil ?_
  refine at_block ?_
  refine cl_loop (σ := Int × List Int) (fun v => match v with | (x4, out5) => ⟨[(2, .ptr 3 1 0 0), (6, .psl 0 6 (x3.instrs.map (cInstr.enc 0))), (7, .hsl 4 0 out5.length), (27, .int .i64 ((List.replicate (x3.instrs.length : Int).toNat (0 : Int)).length : Int)), (28, .int .i64 x4)], [(3, ⟨2, [cImage.row 0 m]⟩), (4, ⟨1, out5.map (cInt.enc 0)⟩)], 5, 130, []⟩) (i_depthsOf_L1 m x3) LF (0, (List.replicate (x3.instrs.length : Int).toNat (0 : Int))) hF (le_down (down_all (ee_cons rfl rfl (Nat.le_of_ble_eq_true rfl) (ee_cons rfl rfl (cInstr.ok_psl _ rfl) (ee_cons rfl rfl (Nat.le_of_ble_eq_true rfl) (ee_cons rfl rfl rfl (ee_cons rfl rfl rfl ee_nil))))) (he_cons rfl rfl rfl (row_one (cImage.row_ok _ rfl)) (he_cons rfl rfl rfl (cInt.rows_ok _ rfl) he_nil)) rfl rfl rfl rfl)) ?_
  rintro lk_ ⟨x4, out5⟩ hF
  refine at_eq (s' := ⟨[(2, .ptr 3 1 0 0), (6, .psl 0 6 (x3.instrs.map (cInstr.enc 0))), (7, .hsl 4 0 out5.length), (27, .int .i64 ((List.replicate (x3.instrs.length : Int).toNat (0 : Int)).length : Int)), (28, .int .i64 x4)], [(3, ⟨2, [cImage.row 0 m]⟩), (4, ⟨1, out5.map (cInt.enc 0)⟩)], 5, 130, []⟩) rfl ?_
  replace hF : i_depthsOf_L1b m x3 (itr (i_depthsOf_L1 m x3) lk_) x4 out5 = some q := hF
  unfold i_depthsOf_L1b at hF
  generalize itr (i_depthsOf_L1 m x3) lk_ = go6 at hF ⊢
  refine at_seq ?_
  refine at_region ?_
  refine sxk 1 tabOK rfl ?_
  refine aops_nil ?_
  refine at_seq ?_
  refine ct_if hF rfl (fun hc hF => ?_) (fun hc hF => ?_)
  · refine at_skip ?_
    refine at_seq ?_
    refine at_block ?_
    refine at_seq ?_
    refine at_region ?_
    refine sxk 2 tabOK rfl ?_
    refine aops_nil ?_
    refine at_region ?_
    refine sxk 2 tabOK rfl ?_
    obtain ⟨x7, hn_x7, hF⟩ := bnd_some hF
    refine sv rfl (oc_haddr cInt hn_x7 tabOK rfl rfl rfl rfl) rfl ?_
    refine sc_store cInt (v' := (-1)) hn_x7 tabOK rfl rfl rfl rfl rfl rfl rfl rfl ?_
    refine ops_le (le_slot (y := .hsl 4 0 (out5.set x4.toNat (-1)).length) 7 rfl (vle_eq (congrArg (V.hsl 4 0) (by simp))) rfl) ?_
    refine aops_nil ?_
    refine bk_n ?_
    refine at_region ?_
    obtain ⟨hb, hF⟩ := chk_some hF
    refine s_add tabOK rfl rfl rfl hb rfl ?_
    refine sxk 1 tabOK rfl ?_
    refine aops_nil ?_
    exact arr_loop ⟨((x4 + 1), (out5.set x4.toNat (-1))), hF, (le_down (down_all (ee_cons rfl rfl (Nat.le_of_ble_eq_true rfl) (ee_cons rfl rfl (cInstr.ok_psl _ rfl) (ee_cons rfl rfl (Nat.le_of_ble_eq_true rfl) (ee_cons rfl rfl rfl (ee_cons rfl rfl rfl ee_nil))))) (he_cons rfl rfl rfl (row_one (cImage.row_ok _ rfl)) (he_cons rfl rfl rfl (cInt.rows_ok _ rfl) he_nil)) rfl rfl rfl rfl))⟩
  · refine at_exit ?_
    refine tk_x ?_
    refine ll_x ?_
    refine bk_hit ?_
    refine at_seq ?_
    refine at_region ?_
    refine sxk 1 tabOK rfl ?_
    obtain ⟨x7, hn_x7, hF⟩ := bnd_some hF
    refine sv rfl (oc_haddr cInt hn_x7 tabOK rfl rfl rfl rfl) rfl ?_
    refine sc_store cInt (v' := 0) hn_x7 tabOK rfl rfl rfl rfl rfl rfl rfl rfl ?_
    refine ops_le (le_slot (y := .hsl 4 0 (out5.set (0 : Int).toNat 0).length) 7 rfl (vle_eq (congrArg (V.hsl 4 0) (by simp))) rfl) ?_
    refine aops_nil ?_
    refine at_seq ?_
    refine at_seq ?_
    refine at_region ?_
    refine sxk 1 tabOK rfl ?_
    refine sv rfl (oc_len cInstr tabOK rfl rfl rfl) rfl ?_
    refine sxk 1 tabOK rfl ?_
    refine aops_nil ?_
    refine at_block ?_
    refine cl_loop (σ := Int × List Int) (fun v => match v with | (x8, out9) => ⟨[(2, .ptr 3 1 0 0), (6, .psl 0 6 (x3.instrs.map (cInstr.enc 0))), (7, .hsl 4 0 out9.length), (37, .psl 0 6 (x3.instrs.map (cInstr.enc 0))), (38, .int .i64 (x3.instrs.length : Int)), (39, .int .i64 x8)], [(3, ⟨2, [cImage.row 0 m]⟩), (4, ⟨1, out9.map (cInt.enc 0)⟩)], 5, 130, []⟩) (i_depthsOf_L2 m x3) LF (0, (out5.set (0 : Int).toNat 0)) hF (le_down (down_all (ee_cons rfl rfl (Nat.le_of_ble_eq_true rfl) (ee_cons rfl rfl (cInstr.ok_psl _ rfl) (ee_cons rfl rfl (Nat.le_of_ble_eq_true rfl) (ee_cons rfl rfl (cInstr.ok_psl _ rfl) (ee_cons rfl rfl rfl (ee_cons rfl rfl rfl ee_nil)))))) (he_cons rfl rfl rfl (row_one (cImage.row_ok _ rfl)) (he_cons rfl rfl rfl (cInt.rows_ok _ rfl) he_nil)) rfl rfl rfl rfl)) ?_
    rintro lk_ ⟨x8, out9⟩ hF
    refine at_eq (s' := ⟨[(2, .ptr 3 1 0 0), (6, .psl 0 6 (x3.instrs.map (cInstr.enc 0))), (7, .hsl 4 0 out9.length), (37, .psl 0 6 (x3.instrs.map (cInstr.enc 0))), (38, .int .i64 (x3.instrs.length : Int)), (39, .int .i64 x8)], [(3, ⟨2, [cImage.row 0 m]⟩), (4, ⟨1, out9.map (cInt.enc 0)⟩)], 5, 130, []⟩) rfl ?_
    replace hF : i_depthsOf_L2b m x3 (itr (i_depthsOf_L2 m x3) lk_) x8 out9 = some q := hF
    unfold i_depthsOf_L2b at hF
    generalize itr (i_depthsOf_L2 m x3) lk_ = go10 at hF ⊢
    refine at_seq ?_
    refine at_region ?_
    refine sxk 1 tabOK rfl ?_
    refine aops_nil ?_
    refine at_seq ?_
    refine ct_if hF rfl (fun hc hF => ?_) (fun hc hF => ?_)
    · refine at_skip ?_
      refine at_seq ?_
      refine cl_midn (σ := List Int) (fun out11 => ⟨[(2, .ptr 3 1 0 0), (6, .psl 0 6 (x3.instrs.map (cInstr.enc 0))), (7, .hsl 4 0 out11.length), (37, .psl 0 6 (x3.instrs.map (cInstr.enc 0))), (38, .int .i64 (x3.instrs.length : Int)), (39, .int .i64 x8)], [(3, ⟨2, [cImage.row 0 m]⟩), (4, ⟨1, out11.map (cInt.enc 0)⟩)], 5, 130, []⟩) (fun out11 => i_depthsOf_J3 x8 go10 out11 = some q) ?_ ?_
      · refine at_block ?_
        refine at_seq ?_
        refine at_region ?_
        refine sxk 1 tabOK rfl ?_
        obtain ⟨x11, hn_x11, hF⟩ := bnd_some hF
        refine sv rfl (oc_addr cInstr hn_x11 tabOK rfl rfl rfl rfl) rfl ?_
        refine sxk 4 tabOK rfl ?_
        refine aops_nil ?_
        refine at_seq ?_
        refine at_seq ?_
        refine at_region ?_
        refine sxk 2 tabOK rfl ?_
        obtain ⟨x12, hn_x12, hF⟩ := bnd_some hF
        refine sv rfl (oc_haddr cInt hn_x12 tabOK rfl rfl rfl rfl) rfl ?_
        refine sv rfl (oc_load cInt hn_x12 tabOK rfl rfl rfl rfl) rfl ?_
        refine sxk 1 tabOK rfl ?_
        refine aops_nil ?_
        refine ct_if hF rfl (fun hc hF => ?_) (fun hc hF => ?_)
        · refine at_exit ?_
          refine tk_x ?_
          refine bk_hit ?_
          exact arr_cut ⟨out9, hF, (le_down (down_all (ee_cons rfl rfl (Nat.le_of_ble_eq_true rfl) (ee_cons rfl rfl (cInstr.ok_psl _ rfl) (ee_cons rfl rfl (Nat.le_of_ble_eq_true rfl) (ee_cons rfl rfl (cInstr.ok_psl _ rfl) (ee_cons rfl rfl rfl (ee_cons rfl rfl rfl ee_nil)))))) (he_cons rfl rfl rfl (row_one (cImage.row_ok _ rfl)) (he_cons rfl rfl rfl (cInt.rows_ok _ rfl) he_nil)) rfl rfl rfl rfl))⟩
        · refine at_skip ?_
          refine at_seq ?_
          refine at_keep [2, 6, 7, 9, 10, 37, 38, 39] rfl ?_
          refine at_region ?_
          refine sxk 2 tabOK rfl ?_
          obtain ⟨x13, hx13, hF⟩ := bnd_some hF
          refine call_eq (i_effect_ok m x11 x13 hx13) rfl ((rlL_cons (cImage.rl_agg (l := 0) (l' := 0) _ m rfl) (rlL_cons (cInstr.rl_agg (l := 0) (l' := 0) _ x11 rfl) rlL_nil))) (rl_tupL (rlL_cons (rfl) (rlL_cons (rfl) rlL_nil))) rfl ?_
          refine sxk 5 tabOK rfl ?_
          refine aops_nil ?_
          refine at_seq ?_
          refine at_seq ?_
          refine at_region ?_
          refine sxk 3 tabOK rfl ?_
          obtain ⟨x14, hn_x14, hF⟩ := bnd_some hF
          refine sv rfl (oc_haddr cInt hn_x14 tabOK rfl rfl rfl rfl) rfl ?_
          refine sv rfl (oc_load cInt hn_x14 tabOK rfl rfl rfl rfl) rfl ?_
          refine sxk 1 tabOK rfl ?_
          refine aops_nil ?_
          refine ct_if hF rfl (fun hc hF => ?_) (fun hc hF => ?_)
          · refine at_seq ?_
            refine at_keep [] rfl ?_
            refine at_region ?_
            refine sxk 2 tabOK rfl ?_
            refine aops_nil ?_
            refine at_le (le_nilrow 4 1 rfl rfl) ?_
            refine at_ret ?_
            refine tk_r ?_
            refine bk_r ?_
            refine tk_r ?_
            refine ll_r ?_
            refine bk_r ?_
            refine tk_r ?_
            obtain rfl := Option.some.inj hF
            exact ⟨_, rfl, 6, rfl, rfl⟩
          · refine at_skip ?_
            refine at_seq ?_
            refine at_keep [2, 6, 7, 9, 10, 11, 12, 37, 38, 39] rfl ?_
            refine at_region ?_
            refine sxk 2 tabOK rfl ?_
            obtain ⟨x15, hn_x15, hF⟩ := bnd_some hF
            refine sv rfl (oc_haddr cInt hn_x15 tabOK rfl rfl rfl rfl) rfl ?_
            refine sv rfl (oc_load cInt hn_x15 tabOK rfl rfl rfl rfl) rfl ?_
            refine sxk 1 tabOK rfl ?_
            obtain ⟨hb, hF⟩ := chk_some hF
            refine s_sub tabOK rfl rfl rfl hb rfl ?_
            refine sxk 1 tabOK rfl ?_
            obtain ⟨hb, hF⟩ := chk_some hF
            refine s_add tabOK rfl rfl rfl hb rfl ?_
            refine sxk 1 tabOK rfl ?_
            refine aops_nil ?_
            refine at_seq ?_
            refine at_seq ?_
            refine at_keep [2, 6, 7, 9, 10, 13, 37, 38, 39] rfl ?_
            refine at_region ?_
            refine sxk 2 tabOK rfl ?_
            refine aops_nil ?_
            refine ct_if hF rfl (fun hc hF => ?_) (fun hc hF => ?_)
            · refine at_seq ?_
              refine at_keep [] rfl ?_
              refine at_region ?_
              refine sxk 2 tabOK rfl ?_
              refine aops_nil ?_
              refine at_le (le_nilrow 4 1 rfl rfl) ?_
              refine at_ret ?_
              refine tk_r ?_
              refine bk_r ?_
              refine tk_r ?_
              refine ll_r ?_
              refine bk_r ?_
              refine tk_r ?_
              obtain rfl := Option.some.inj hF
              exact ⟨_, rfl, 6, rfl, rfl⟩
            · refine at_skip ?_
              refine at_seq ?_
              refine at_region ?_
              refine sxk 1 tabOK rfl ?_
              refine aops_nil ?_
              refine at_seq ?_
              refine at_seq ?_
              refine at_region ?_
              refine sxk 2 tabOK rfl ?_
              refine aops_nil ?_
              refine cl_midn (σ := List Int) (fun next16 => ⟨[(2, .ptr 3 1 0 0), (6, .psl 0 6 (x3.instrs.map (cInstr.enc 0))), (7, .hsl 4 0 out9.length), (9, .int .i64 x8), (13, .int .i64 ((x15 - x13.1) + x13.2)), (14, .hsl 6 0 next16.length), (37, .psl 0 6 (x3.instrs.map (cInstr.enc 0))), (38, .int .i64 (x3.instrs.length : Int)), (39, .int .i64 x8)], [(3, ⟨2, [cImage.row 0 m]⟩), (4, ⟨1, out9.map (cInt.enc 0)⟩), (6, ⟨1, next16.map (cInt.enc 0)⟩)], 7, 130, []⟩) (fun next16 => i_depthsOf_J4 x3 x8 out9 go10 x13 x15 next16 = some q) ?_ ?_
              · refine at_block ?_
                refine at_seq ?_
                refine at_seq ?_
                refine at_region ?_
                refine sxk 2 tabOK rfl ?_
                refine aops_nil ?_
                refine cl_midn (σ := Bool) (fun x16 => ⟨[(2, .ptr 3 1 0 0), (6, .psl 0 6 (x3.instrs.map (cInstr.enc 0))), (7, .hsl 4 0 out9.length), (9, .int .i64 x8), (10, .ptr 5 1 0 0), (13, .int .i64 ((x15 - x13.1) + x13.2)), (14, .nilsl), (37, .psl 0 6 (x3.instrs.map (cInstr.enc 0))), (38, .int .i64 (x3.instrs.length : Int)), (39, .int .i64 x8), (72, .int .i64 x11.op), (76, .bool x16)], [(3, ⟨2, [cImage.row 0 m]⟩), (4, ⟨1, out9.map (cInt.enc 0)⟩), (5, ⟨6, [cInstr.row 0 x11]⟩)], 6, 130, []⟩) (fun x16 => i_depthsOf_J7 x3 x8 out9 go10 x11 x13 x15 x16 = some q) ?_ ?_
                · refine ct_if hF rfl (fun hc hF => ?_) (fun hc hF => ?_)
                  · refine at_skip ?_
                    exact arr_cut ⟨true, hF, (le_down (down_all (ee_cons rfl rfl (Nat.le_of_ble_eq_true rfl) (ee_cons rfl rfl (cInstr.ok_psl _ rfl) (ee_cons rfl rfl (Nat.le_of_ble_eq_true rfl) (ee_cons rfl rfl rfl (ee_cons rfl rfl (Nat.le_of_ble_eq_true rfl) (ee_cons rfl rfl rfl (ee_cons rfl rfl rfl (ee_cons rfl rfl (cInstr.ok_psl _ rfl) (ee_cons rfl rfl rfl (ee_cons rfl rfl rfl (ee_cons rfl rfl rfl (ee_cons rfl rfl rfl ee_nil)))))))))))) (he_cons rfl rfl rfl (row_one (cImage.row_ok _ rfl)) (he_cons rfl rfl rfl (cInt.rows_ok _ rfl) (he_cons rfl rfl rfl (row_one (cInstr.row_ok _ rfl)) he_nil))) rfl rfl rfl rfl))⟩
                  · refine at_region ?_
                    refine sxk 2 tabOK rfl ?_
                    refine aops_nil ?_
                    exact arr_cut ⟨(decide (x11.op = 13)), hF, (le_down (down_all (ee_cons rfl rfl (Nat.le_of_ble_eq_true rfl) (ee_cons rfl rfl (cInstr.ok_psl _ rfl) (ee_cons rfl rfl (Nat.le_of_ble_eq_true rfl) (ee_cons rfl rfl rfl (ee_cons rfl rfl (Nat.le_of_ble_eq_true rfl) (ee_cons rfl rfl rfl (ee_cons rfl rfl rfl (ee_cons rfl rfl (cInstr.ok_psl _ rfl) (ee_cons rfl rfl rfl (ee_cons rfl rfl rfl (ee_cons rfl rfl rfl (ee_cons rfl rfl rfl ee_nil)))))))))))) (he_cons rfl rfl rfl (row_one (cImage.row_ok _ rfl)) (he_cons rfl rfl rfl (cInt.rows_ok _ rfl) (he_cons rfl rfl rfl (row_one (cInstr.row_ok _ rfl)) he_nil))) rfl rfl rfl rfl))⟩
                · rintro x16 hF
                  refine at_eq (s' := ⟨[(2, .ptr 3 1 0 0), (6, .psl 0 6 (x3.instrs.map (cInstr.enc 0))), (7, .hsl 4 0 out9.length), (9, .int .i64 x8), (10, .ptr 5 1 0 0), (13, .int .i64 ((x15 - x13.1) + x13.2)), (14, .nilsl), (37, .psl 0 6 (x3.instrs.map (cInstr.enc 0))), (38, .int .i64 (x3.instrs.length : Int)), (39, .int .i64 x8), (72, .int .i64 x11.op), (76, .bool x16)], [(3, ⟨2, [cImage.row 0 m]⟩), (4, ⟨1, out9.map (cInt.enc 0)⟩), (5, ⟨6, [cInstr.row 0 x11]⟩)], 6, 130, []⟩) rfl ?_
                  replace hF : i_depthsOf_J7 x3 x8 out9 go10 x11 x13 x15 x16 = some q := hF
                  unfold i_depthsOf_J7 at hF
                  refine ct_b hF rfl (fun hc hF => ?_) (fun hc hF => ?_)
                  · refine at_seq ?_
                    refine at_region ?_
                    refine sxk 2 tabOK rfl ?_
                    refine aops_nil ?_
                    refine ct_ifn hF rfl (fun hc hF => ?_) (fun hc hF => ?_)
                    · refine at_seq ?_
                      refine at_keep [] rfl ?_
                      refine at_region ?_
                      refine sxk 2 tabOK rfl ?_
                      refine aops_nil ?_
                      refine at_le (le_nilrow 4 1 rfl rfl) ?_
                      refine at_ret ?_
                      refine bk_r ?_
                      refine tk_r ?_
                      refine bk_r ?_
                      refine tk_r ?_
                      refine ll_r ?_
                      refine bk_r ?_
                      refine tk_r ?_
                      obtain rfl := Option.some.inj hF
                      exact ⟨_, rfl, 6, rfl, rfl⟩
                    · refine at_skip ?_
                      refine bk_n ?_
                      exact arr_cut ⟨[], hF, ((le_nilrow 14 1 rfl rfl).trans (le_down (down_all (ee_cons rfl rfl (Nat.le_of_ble_eq_true rfl) (ee_cons rfl rfl (cInstr.ok_psl _ rfl) (ee_cons rfl rfl (Nat.le_of_ble_eq_true rfl) (ee_cons rfl rfl rfl (ee_cons rfl rfl rfl (ee_cons rfl rfl (Nat.le_of_ble_eq_true rfl) (ee_cons rfl rfl (cInstr.ok_psl _ rfl) (ee_cons rfl rfl rfl (ee_cons rfl rfl rfl ee_nil))))))))) (he_cons rfl rfl rfl (row_one (cImage.row_ok _ rfl)) (he_cons rfl rfl rfl (cInt.rows_ok _ rfl) (he_cons rfl rfl rfl (cInt.rows_ok _ rfl) he_nil))) rfl rfl rfl rfl)))⟩
                  · refine at_seq ?_
                    refine at_region ?_
                    refine sxk 2 tabOK rfl ?_
                    refine aops_nil ?_
                    refine ct_if hF rfl (fun hc hF => ?_) (fun hc hF => ?_)
                    · refine at_region ?_
                      refine sxk 2 tabOK rfl ?_
                      refine sc_slit cInt (l := 0) ([x11.a] : List Int) tabOK rfl rfl rfl rfl rfl rfl rfl ?_
                      refine sxk 1 tabOK rfl ?_
                      refine aops_nil ?_
                      refine bk_n ?_
                      exact arr_cut ⟨([x11.a] : List Int), hF, (le_down (down_all (ee_cons rfl rfl (Nat.le_of_ble_eq_true rfl) (ee_cons rfl rfl (cInstr.ok_psl _ rfl) (ee_cons rfl rfl (Nat.le_of_ble_eq_true rfl) (ee_cons rfl rfl rfl (ee_cons rfl rfl rfl (ee_cons rfl rfl (Nat.le_of_ble_eq_true rfl) (ee_cons rfl rfl (cInstr.ok_psl _ rfl) (ee_cons rfl rfl rfl (ee_cons rfl rfl rfl ee_nil))))))))) (he_cons rfl rfl rfl (row_one (cImage.row_ok _ rfl)) (he_cons rfl rfl rfl (cInt.rows_ok _ rfl) (he_cons rfl rfl rfl (cInt.rows_ok _ rfl) he_nil))) rfl rfl rfl rfl))⟩
                    · refine at_seq ?_
                      refine at_region ?_
                      refine sxk 2 tabOK rfl ?_
                      refine aops_nil ?_
                      refine ct_if hF rfl (fun hc hF => ?_) (fun hc hF => ?_)
                      · refine at_keep [2, 6, 7, 9, 10, 13, 37, 38, 39] rfl ?_
                        refine at_region ?_
                        refine sxk 1 tabOK rfl ?_
                        obtain ⟨hb, hF⟩ := chk_some hF
                        refine s_add tabOK rfl rfl rfl hb rfl ?_
                        refine sxk 2 tabOK rfl ?_
                        refine sc_slit cInt (l := 0) ([(x8 + 1), x11.a] : List Int) tabOK rfl rfl rfl rfl rfl rfl rfl ?_
                        refine sxk 1 tabOK rfl ?_
                        refine aops_nil ?_
                        refine bk_n ?_
                        exact arr_cut ⟨([(x8 + 1), x11.a] : List Int), hF, (le_down (down_all (ee_cons rfl rfl (Nat.le_of_ble_eq_true rfl) (ee_cons rfl rfl (cInstr.ok_psl _ rfl) (ee_cons rfl rfl (Nat.le_of_ble_eq_true rfl) (ee_cons rfl rfl rfl (ee_cons rfl rfl rfl (ee_cons rfl rfl (Nat.le_of_ble_eq_true rfl) (ee_cons rfl rfl (cInstr.ok_psl _ rfl) (ee_cons rfl rfl rfl (ee_cons rfl rfl rfl ee_nil))))))))) (he_cons rfl rfl rfl (row_one (cImage.row_ok _ rfl)) (he_cons rfl rfl rfl (cInt.rows_ok _ rfl) (he_cons rfl rfl rfl (cInt.rows_ok _ rfl) he_nil))) rfl rfl rfl rfl))⟩
                      · refine at_keep [2, 6, 7, 9, 13, 37, 38, 39] rfl ?_
                        refine at_region ?_
                        refine sxk 1 tabOK rfl ?_
                        obtain ⟨hb, hF⟩ := chk_some hF
                        refine s_add tabOK rfl rfl rfl hb rfl ?_
                        refine sc_slit cInt (l := 0) ([(x8 + 1)] : List Int) tabOK rfl rfl rfl rfl rfl rfl rfl ?_
                        refine sxk 1 tabOK rfl ?_
                        refine aops_nil ?_
                        refine bk_n ?_
                        exact arr_cut ⟨([(x8 + 1)] : List Int), hF, (le_down (down_all (ee_cons rfl rfl (Nat.le_of_ble_eq_true rfl) (ee_cons rfl rfl (cInstr.ok_psl _ rfl) (ee_cons rfl rfl (Nat.le_of_ble_eq_true rfl) (ee_cons rfl rfl rfl (ee_cons rfl rfl rfl (ee_cons rfl rfl (Nat.le_of_ble_eq_true rfl) (ee_cons rfl rfl (cInstr.ok_psl _ rfl) (ee_cons rfl rfl rfl (ee_cons rfl rfl rfl ee_nil))))))))) (he_cons rfl rfl rfl (row_one (cImage.row_ok _ rfl)) (he_cons rfl rfl rfl (cInt.rows_ok _ rfl) (he_cons rfl rfl rfl (cInt.rows_ok _ rfl) he_nil))) rfl rfl rfl rfl))⟩
              · rintro next16 hF
                refine at_eq (s' := ⟨[(2, .ptr 3 1 0 0), (6, .psl 0 6 (x3.instrs.map (cInstr.enc 0))), (7, .hsl 4 0 out9.length), (9, .int .i64 x8), (13, .int .i64 ((x15 - x13.1) + x13.2)), (14, .hsl 6 0 next16.length), (37, .psl 0 6 (x3.instrs.map (cInstr.enc 0))), (38, .int .i64 (x3.instrs.length : Int)), (39, .int .i64 x8)], [(3, ⟨2, [cImage.row 0 m]⟩), (4, ⟨1, out9.map (cInt.enc 0)⟩), (6, ⟨1, next16.map (cInt.enc 0)⟩)], 7, 130, []⟩) rfl ?_
                replace hF : i_depthsOf_J4 x3 x8 out9 go10 x13 x15 next16 = some q := hF
                unfold i_depthsOf_J4 at hF
                refine at_seq ?_
                refine at_region ?_
                refine sxk 1 tabOK rfl ?_
                refine sv rfl (oc_hlen cInt tabOK rfl rfl rfl) rfl ?_
                refine sxk 1 tabOK rfl ?_
                refine aops_nil ?_
                refine at_block ?_
                refine cl_loop (σ := Int × List Int) (fun v => match v with | (x17, out18) => ⟨[(2, .ptr 3 1 0 0), (6, .psl 0 6 (x3.instrs.map (cInstr.enc 0))), (7, .hsl 4 0 out18.length), (9, .int .i64 x8), (13, .int .i64 ((x15 - x13.1) + x13.2)), (37, .psl 0 6 (x3.instrs.map (cInstr.enc 0))), (38, .int .i64 (x3.instrs.length : Int)), (39, .int .i64 x8), (93, .hsl 6 0 next16.length), (94, .int .i64 (next16.length : Int)), (95, .int .i64 x17)], [(3, ⟨2, [cImage.row 0 m]⟩), (4, ⟨1, out18.map (cInt.enc 0)⟩), (6, ⟨1, next16.map (cInt.enc 0)⟩)], 7, 130, []⟩) (i_depthsOf_L5 x3 x8 go10 x13 x15 next16) LF (0, out9) hF (le_down (down_all (ee_cons rfl rfl (Nat.le_of_ble_eq_true rfl) (ee_cons rfl rfl (cInstr.ok_psl _ rfl) (ee_cons rfl rfl (Nat.le_of_ble_eq_true rfl) (ee_cons rfl rfl rfl (ee_cons rfl rfl rfl (ee_cons rfl rfl (cInstr.ok_psl _ rfl) (ee_cons rfl rfl rfl (ee_cons rfl rfl rfl (ee_cons rfl rfl (Nat.le_of_ble_eq_true rfl) (ee_cons rfl rfl rfl (ee_cons rfl rfl rfl ee_nil))))))))))) (he_cons rfl rfl rfl (row_one (cImage.row_ok _ rfl)) (he_cons rfl rfl rfl (cInt.rows_ok _ rfl) (he_cons rfl rfl rfl (cInt.rows_ok _ rfl) he_nil))) rfl rfl rfl rfl)) ?_
                rintro lk_ ⟨x17, out18⟩ hF
                refine at_eq (s' := ⟨[(2, .ptr 3 1 0 0), (6, .psl 0 6 (x3.instrs.map (cInstr.enc 0))), (7, .hsl 4 0 out18.length), (9, .int .i64 x8), (13, .int .i64 ((x15 - x13.1) + x13.2)), (37, .psl 0 6 (x3.instrs.map (cInstr.enc 0))), (38, .int .i64 (x3.instrs.length : Int)), (39, .int .i64 x8), (93, .hsl 6 0 next16.length), (94, .int .i64 (next16.length : Int)), (95, .int .i64 x17)], [(3, ⟨2, [cImage.row 0 m]⟩), (4, ⟨1, out18.map (cInt.enc 0)⟩), (6, ⟨1, next16.map (cInt.enc 0)⟩)], 7, 130, []⟩) rfl ?_
                replace hF : i_depthsOf_L5b x3 x8 go10 x13 x15 next16 (itr (i_depthsOf_L5 x3 x8 go10 x13 x15 next16) lk_) x17 out18 = some q := hF
                unfold i_depthsOf_L5b at hF
                generalize itr (i_depthsOf_L5 x3 x8 go10 x13 x15 next16) lk_ = go19 at hF ⊢
                refine at_seq ?_
                refine at_region ?_
                refine sxk 1 tabOK rfl ?_
                refine aops_nil ?_
                refine at_seq ?_
                refine ct_if hF rfl (fun hc hF => ?_) (fun hc hF => ?_)
                · refine at_skip ?_
                  refine at_seq ?_
                  refine at_block ?_
                  refine at_seq ?_
                  refine at_region ?_
                  obtain ⟨x20, hn_x20, hF⟩ := bnd_some hF
                  refine sv rfl (oc_haddr cInt hn_x20 tabOK rfl rfl rfl rfl) rfl ?_
                  refine sv rfl (oc_load cInt hn_x20 tabOK rfl rfl rfl rfl) rfl ?_
                  refine sxk 1 tabOK rfl ?_
                  refine aops_nil ?_
                  refine at_seq ?_
                  refine at_seq ?_
                  refine cl_midn (σ := Bool) (fun x21 => ⟨[(2, .ptr 3 1 0 0), (6, .psl 0 6 (x3.instrs.map (cInstr.enc 0))), (7, .hsl 4 0 out18.length), (9, .int .i64 x8), (13, .int .i64 ((x15 - x13.1) + x13.2)), (16, .int .i64 x20), (37, .psl 0 6 (x3.instrs.map (cInstr.enc 0))), (38, .int .i64 (x3.instrs.length : Int)), (39, .int .i64 x8), (93, .hsl 6 0 next16.length), (94, .int .i64 (next16.length : Int)), (95, .int .i64 x17), (122, .bool x21)], [(3, ⟨2, [cImage.row 0 m]⟩), (4, ⟨1, out18.map (cInt.enc 0)⟩), (6, ⟨1, next16.map (cInt.enc 0)⟩)], 7, 130, []⟩) (fun x21 => i_depthsOf_J6 x13 x15 x17 out18 go19 x20 x21 = some q) ?_ ?_
                  · refine at_region ?_
                    refine sxk 4 tabOK rfl ?_
                    refine ops_if (g := 102) hF rfl (fun hc hF => ?_) (fun hc hF => ?_)
                    · refine sxk 20 tabOK rfl ?_
                      refine aops_nil ?_
                      exact arr_cut ⟨true, hF, (le_down (down_all (ee_cons rfl rfl (Nat.le_of_ble_eq_true rfl) (ee_cons rfl rfl (cInstr.ok_psl _ rfl) (ee_cons rfl rfl (Nat.le_of_ble_eq_true rfl) (ee_cons rfl rfl rfl (ee_cons rfl rfl rfl (ee_cons rfl rfl rfl (ee_cons rfl rfl (cInstr.ok_psl _ rfl) (ee_cons rfl rfl rfl (ee_cons rfl rfl rfl (ee_cons rfl rfl (Nat.le_of_ble_eq_true rfl) (ee_cons rfl rfl rfl (ee_cons rfl rfl rfl (ee_cons rfl rfl rfl ee_nil))))))))))))) (he_cons rfl rfl rfl (row_one (cImage.row_ok _ rfl)) (he_cons rfl rfl rfl (cInt.rows_ok _ rfl) (he_cons rfl rfl rfl (cInt.rows_ok _ rfl) he_nil))) rfl rfl rfl rfl))⟩
                    · refine sxk 2 tabOK rfl ?_
                      refine sv rfl (oc_len cInstr tabOK rfl rfl rfl) rfl ?_
                      refine sxk 3 tabOK rfl ?_
                      refine ops_if (g := 108) hF rfl (fun hc hF => ?_) (fun hc hF => ?_)
                      · refine sxk 14 tabOK rfl ?_
                        refine aops_nil ?_
                        exact arr_cut ⟨true, hF, (le_down (down_all (ee_cons rfl rfl (Nat.le_of_ble_eq_true rfl) (ee_cons rfl rfl (cInstr.ok_psl _ rfl) (ee_cons rfl rfl (Nat.le_of_ble_eq_true rfl) (ee_cons rfl rfl rfl (ee_cons rfl rfl rfl (ee_cons rfl rfl rfl (ee_cons rfl rfl (cInstr.ok_psl _ rfl) (ee_cons rfl rfl rfl (ee_cons rfl rfl rfl (ee_cons rfl rfl (Nat.le_of_ble_eq_true rfl) (ee_cons rfl rfl rfl (ee_cons rfl rfl rfl (ee_cons rfl rfl rfl ee_nil))))))))))))) (he_cons rfl rfl rfl (row_one (cImage.row_ok _ rfl)) (he_cons rfl rfl rfl (cInt.rows_ok _ rfl) (he_cons rfl rfl rfl (cInt.rows_ok _ rfl) he_nil))) rfl rfl rfl rfl))⟩
                      · refine sxk 2 tabOK rfl ?_
                        obtain ⟨x21, hn_x21, hF⟩ := bnd_some hF
                        refine sv rfl (oc_haddr cInt hn_x21 tabOK rfl rfl rfl rfl) rfl ?_
                        refine sv rfl (oc_load cInt hn_x21 tabOK rfl rfl rfl rfl) rfl ?_
                        refine sxk 2 tabOK rfl ?_
                        refine ops_if (g := 114) hF rfl (fun hc hF => ?_) (fun hc hF => ?_)
                        · refine sxk 2 tabOK rfl ?_
                          obtain ⟨x22, hn_x22, hF⟩ := bnd_some hF
                          refine sv rfl (oc_haddr cInt hn_x22 tabOK rfl rfl rfl rfl) rfl ?_
                          refine sv rfl (oc_load cInt hn_x22 tabOK rfl rfl rfl rfl) rfl ?_
                          refine sxk 4 tabOK rfl ?_
                          refine aops_nil ?_
                          exact arr_cut ⟨(!decide (x22 = ((x15 - x13.1) + x13.2))), hF, (le_down (down_all (ee_cons rfl rfl (Nat.le_of_ble_eq_true rfl) (ee_cons rfl rfl (cInstr.ok_psl _ rfl) (ee_cons rfl rfl (Nat.le_of_ble_eq_true rfl) (ee_cons rfl rfl rfl (ee_cons rfl rfl rfl (ee_cons rfl rfl rfl (ee_cons rfl rfl (cInstr.ok_psl _ rfl) (ee_cons rfl rfl rfl (ee_cons rfl rfl rfl (ee_cons rfl rfl (Nat.le_of_ble_eq_true rfl) (ee_cons rfl rfl rfl (ee_cons rfl rfl rfl (ee_cons rfl rfl rfl ee_nil))))))))))))) (he_cons rfl rfl rfl (row_one (cImage.row_ok _ rfl)) (he_cons rfl rfl rfl (cInt.rows_ok _ rfl) (he_cons rfl rfl rfl (cInt.rows_ok _ rfl) he_nil))) rfl rfl rfl rfl))⟩
                        · refine sxk 8 tabOK rfl ?_
                          refine aops_nil ?_
                          exact arr_cut ⟨false, hF, (le_down (down_all (ee_cons rfl rfl (Nat.le_of_ble_eq_true rfl) (ee_cons rfl rfl (cInstr.ok_psl _ rfl) (ee_cons rfl rfl (Nat.le_of_ble_eq_true rfl) (ee_cons rfl rfl rfl (ee_cons rfl rfl rfl (ee_cons rfl rfl rfl (ee_cons rfl rfl (cInstr.ok_psl _ rfl) (ee_cons rfl rfl rfl (ee_cons rfl rfl rfl (ee_cons rfl rfl (Nat.le_of_ble_eq_true rfl) (ee_cons rfl rfl rfl (ee_cons rfl rfl rfl (ee_cons rfl rfl rfl ee_nil))))))))))))) (he_cons rfl rfl rfl (row_one (cImage.row_ok _ rfl)) (he_cons rfl rfl rfl (cInt.rows_ok _ rfl) (he_cons rfl rfl rfl (cInt.rows_ok _ rfl) he_nil))) rfl rfl rfl rfl))⟩
                  · rintro x21 hF
                    refine at_eq (s' := ⟨[(2, .ptr 3 1 0 0), (6, .psl 0 6 (x3.instrs.map (cInstr.enc 0))), (7, .hsl 4 0 out18.length), (9, .int .i64 x8), (13, .int .i64 ((x15 - x13.1) + x13.2)), (16, .int .i64 x20), (37, .psl 0 6 (x3.instrs.map (cInstr.enc 0))), (38, .int .i64 (x3.instrs.length : Int)), (39, .int .i64 x8), (93, .hsl 6 0 next16.length), (94, .int .i64 (next16.length : Int)), (95, .int .i64 x17), (122, .bool x21)], [(3, ⟨2, [cImage.row 0 m]⟩), (4, ⟨1, out18.map (cInt.enc 0)⟩), (6, ⟨1, next16.map (cInt.enc 0)⟩)], 7, 130, []⟩) rfl ?_
                    replace hF : i_depthsOf_J6 x13 x15 x17 out18 go19 x20 x21 = some q := hF
                    unfold i_depthsOf_J6 at hF
                    refine ct_b hF rfl (fun hc hF => ?_) (fun hc hF => ?_)
                    · refine at_seq ?_
                      refine at_keep [] rfl ?_
                      refine at_region ?_
                      refine sxk 2 tabOK rfl ?_
                      refine aops_nil ?_
                      refine at_le (le_nilrow 4 1 rfl rfl) ?_
                      refine at_ret ?_
                      refine tk_r ?_
                      refine bk_r ?_
                      refine tk_r ?_
                      refine ll_r ?_
                      refine bk_r ?_
                      refine bk_r ?_
                      refine tk_r ?_
                      refine ll_r ?_
                      refine bk_r ?_
                      refine tk_r ?_
                      obtain rfl := Option.some.inj hF
                      exact ⟨_, rfl, 7, rfl, rfl⟩
                    · refine at_skip ?_
                      refine at_region ?_
                      refine sxk 3 tabOK rfl ?_
                      obtain ⟨x22, hn_x22, hF⟩ := bnd_some hF
                      refine sv rfl (oc_haddr cInt hn_x22 tabOK rfl rfl rfl rfl) rfl ?_
                      refine sc_store cInt (v' := ((x15 - x13.1) + x13.2)) hn_x22 tabOK rfl rfl rfl rfl rfl rfl rfl rfl ?_
                      refine ops_le (le_slot (y := .hsl 4 0 (out18.set x20.toNat ((x15 - x13.1) + x13.2)).length) 7 rfl (vle_eq (congrArg (V.hsl 4 0) (by simp))) rfl) ?_
                      refine aops_nil ?_
                      refine bk_n ?_
                      refine at_region ?_
                      obtain ⟨hb, hF⟩ := chk_some hF
                      refine s_add tabOK rfl rfl rfl hb rfl ?_
                      refine sxk 1 tabOK rfl ?_
                      refine aops_nil ?_
                      exact arr_loop ⟨((x17 + 1), (out18.set x20.toNat ((x15 - x13.1) + x13.2))), hF, (le_down (down_all (ee_cons rfl rfl (Nat.le_of_ble_eq_true rfl) (ee_cons rfl rfl (cInstr.ok_psl _ rfl) (ee_cons rfl rfl (Nat.le_of_ble_eq_true rfl) (ee_cons rfl rfl rfl (ee_cons rfl rfl rfl (ee_cons rfl rfl (cInstr.ok_psl _ rfl) (ee_cons rfl rfl rfl (ee_cons rfl rfl rfl (ee_cons rfl rfl (Nat.le_of_ble_eq_true rfl) (ee_cons rfl rfl rfl (ee_cons rfl rfl rfl ee_nil))))))))))) (he_cons rfl rfl rfl (row_one (cImage.row_ok _ rfl)) (he_cons rfl rfl rfl (cInt.rows_ok _ rfl) (he_cons rfl rfl rfl (cInt.rows_ok _ rfl) he_nil))) rfl rfl rfl rfl))⟩
                · refine at_exit ?_
                  refine tk_x ?_
                  refine ll_x ?_
                  refine bk_hit ?_
                  refine bk_n ?_
                  exact arr_cut ⟨out18, hF, (le_down (down_all (ee_cons rfl rfl (Nat.le_of_ble_eq_true rfl) (ee_cons rfl rfl (cInstr.ok_psl _ rfl) (ee_cons rfl rfl (Nat.le_of_ble_eq_true rfl) (ee_cons rfl rfl (cInstr.ok_psl _ rfl) (ee_cons rfl rfl rfl (ee_cons rfl rfl rfl ee_nil)))))) (he_cons rfl rfl rfl (row_one (cImage.row_ok _ rfl)) (he_cons rfl rfl rfl (cInt.rows_ok _ rfl) he_nil)) rfl rfl rfl rfl))⟩
      · rintro out11 hF
        refine at_eq (s' := ⟨[(2, .ptr 3 1 0 0), (6, .psl 0 6 (x3.instrs.map (cInstr.enc 0))), (7, .hsl 4 0 out11.length), (37, .psl 0 6 (x3.instrs.map (cInstr.enc 0))), (38, .int .i64 (x3.instrs.length : Int)), (39, .int .i64 x8)], [(3, ⟨2, [cImage.row 0 m]⟩), (4, ⟨1, out11.map (cInt.enc 0)⟩)], 5, 130, []⟩) rfl ?_
        replace hF : i_depthsOf_J3 x8 go10 out11 = some q := hF
        unfold i_depthsOf_J3 at hF
        refine at_region ?_
        obtain ⟨hb, hF⟩ := chk_some hF
        refine s_add tabOK rfl rfl rfl hb rfl ?_
        refine sxk 1 tabOK rfl ?_
        refine aops_nil ?_
        exact arr_loop ⟨((x8 + 1), out11), hF, (le_down (down_all (ee_cons rfl rfl (Nat.le_of_ble_eq_true rfl) (ee_cons rfl rfl (cInstr.ok_psl _ rfl) (ee_cons rfl rfl (Nat.le_of_ble_eq_true rfl) (ee_cons rfl rfl (cInstr.ok_psl _ rfl) (ee_cons rfl rfl rfl (ee_cons rfl rfl rfl ee_nil)))))) (he_cons rfl rfl rfl (row_one (cImage.row_ok _ rfl)) (he_cons rfl rfl rfl (cInt.rows_ok _ rfl) he_nil)) rfl rfl rfl rfl))⟩
    · refine at_exit ?_
      refine tk_x ?_
      refine ll_x ?_
      refine bk_hit ?_
      refine at_seq ?_
      refine at_region ?_
      refine sxk 3 tabOK rfl ?_
      refine aops_nil ?_
      refine at_ret ?_
      obtain rfl := Option.some.inj hF
      exact ⟨_, rfl, 4, rfl, rfl⟩

theorem i_StackDepths_own (m : PImage) (code : Int) (q : List Int × Bool) (hF : i_StackDepths m code = some q) : FC Try.prog 44 [.agg (cImage.row 0 m), .int .i64 code] [] 3 (fun x h2 => ∃ j, x = .tup [.hsl j 0 q.1.length, .bool q.2] ∧ hget h2 j = some ⟨1, q.1.map (cInt.enc 0)⟩) := by
  refine fc_body tabOK Try.func44 rfl Try.ntmps44 rfl rfl rfl ?_
  unfold i_StackDepths at hF
  refine at_seq ?_
  refine at_region ?_
  refine sxk 3 tabOK rfl ?_
  refine aops_nil ?_
  refine at_seq ?_
  refine at_seq ?_
  refine at_region ?_
  refine sxk 3 tabOK rfl ?_
  refine ops_if (g := 9) hF rfl (fun hc hF => ?_) (fun hc hF => ?_)
  · refine sxk 6 tabOK rfl ?_
    refine aops_nil ?_
    refine at_true rfl ?_
    refine at_seq ?_
    refine at_keep [] rfl ?_
    refine at_region ?_
    refine sxk 2 tabOK rfl ?_
    refine aops_nil ?_
    refine at_le (le_nilrow 4 1 rfl rfl) ?_
    refine at_ret ?_
    refine tk_r ?_
    obtain rfl := Option.some.inj hF
    exact ⟨_, rfl, 4, rfl, rfl⟩
  · refine sxk 3 tabOK rfl ?_
    refine sv rfl (oc_len cCode tabOK rfl rfl rfl) rfl ?_
    refine sxk 2 tabOK rfl ?_
    refine aops_nil ?_
    refine ct_if hF rfl (fun hc hF => ?_) (fun hc hF => ?_)
    · refine at_seq ?_
      refine at_keep [] rfl ?_
      refine at_region ?_
      refine sxk 2 tabOK rfl ?_
      refine aops_nil ?_
      refine at_le (le_nilrow 4 1 rfl rfl) ?_
      refine at_ret ?_
      refine tk_r ?_
      obtain rfl := Option.some.inj hF
      exact ⟨_, rfl, 4, rfl, rfl⟩
    · refine at_skip ?_
      refine at_seq ?_
      refine at_seq ?_
      refine at_keep [1, 2] rfl ?_
      refine at_region ?_
      refine sxk 1 tabOK rfl ?_
      refine aops_nil ?_
      refine at_block ?_
      refine cl_loop (σ := Int) (fun k3 => ⟨[(1, .int .i64 code), (2, .ptr 3 1 0 0), (6, .int .i64 k3)], [(3, ⟨2, [cImage.row 0 m]⟩)], 4, 30, []⟩) (i_StackDepths_L1 m code) LF 0 hF (le_down (down_all (ee_cons rfl rfl rfl (ee_cons rfl rfl (Nat.le_of_ble_eq_true rfl) (ee_cons rfl rfl rfl ee_nil))) (he_cons rfl rfl rfl (row_one (cImage.row_ok _ rfl)) he_nil) rfl rfl rfl rfl)) ?_
      rintro lk_ k3 hF
      refine at_eq (s' := ⟨[(1, .int .i64 code), (2, .ptr 3 1 0 0), (6, .int .i64 k3)], [(3, ⟨2, [cImage.row 0 m]⟩)], 4, 30, []⟩) rfl ?_
      replace hF : i_StackDepths_L1b m code (itr (i_StackDepths_L1 m code) lk_) k3 = some q := hF
      unfold i_StackDepths_L1b at hF
      generalize itr (i_StackDepths_L1 m code) lk_ = go4 at hF ⊢
      refine at_seq ?_
      refine at_seq ?_
      refine at_region ?_
      refine sxk 3 tabOK rfl ?_
      refine aops_nil ?_
      refine ct_if hF rfl (fun hc hF => ?_) (fun hc hF => ?_)
      · refine at_skip ?_
        refine at_seq ?_
        refine at_block ?_
        refine at_seq ?_
        refine at_region ?_
        refine sxk 2 tabOK rfl ?_
        obtain ⟨x5, hx5, hF⟩ := bnd_some hF
        refine call_eq (i_codeOk_ok m k3 x5 hx5) rfl ((rlL_cons (cImage.rl_agg (l := 0) (l' := 0) _ m rfl) (rlL_cons (rfl) rlL_nil))) rfl rfl ?_
        refine sxk 1 tabOK rfl ?_
        refine aops_nil ?_
        refine ct_bn hF rfl (fun hc hF => ?_) (fun hc hF => ?_)
        · refine at_seq ?_
          refine at_keep [] rfl ?_
          refine at_region ?_
          refine sxk 2 tabOK rfl ?_
          refine aops_nil ?_
          refine at_le (le_nilrow 4 1 rfl rfl) ?_
          refine at_ret ?_
          refine bk_r ?_
          refine tk_r ?_
          refine ll_r ?_
          refine bk_r ?_
          refine tk_r ?_
          obtain rfl := Option.some.inj hF
          exact ⟨_, rfl, 4, rfl, rfl⟩
        · refine at_skip ?_
          refine bk_n ?_
          refine at_keep [1, 2, 6] rfl ?_
          refine at_region ?_
          refine sxk 1 tabOK rfl ?_
          obtain ⟨hb, hF⟩ := chk_some hF
          refine s_add tabOK rfl rfl rfl hb rfl ?_
          refine sxk 1 tabOK rfl ?_
          refine aops_nil ?_
          exact arr_loop ⟨(k3 + 1), hF, (le_down (down_all (ee_cons rfl rfl rfl (ee_cons rfl rfl (Nat.le_of_ble_eq_true rfl) (ee_cons rfl rfl rfl ee_nil))) (he_cons rfl rfl rfl (row_one (cImage.row_ok _ rfl)) he_nil) rfl rfl rfl rfl))⟩
      · refine at_exit ?_
        refine tk_x ?_
        refine ll_x ?_
        refine bk_hit ?_
        refine at_seq ?_
        refine at_region ?_
        refine sxk 2 tabOK rfl ?_
        obtain ⟨x5, hx5, hF⟩ := bnd_some hF
        refine call_o1 (i_depthsOf_own m code x5 hx5) rfl (rdL_cons (rd_rl (cImage.rl_agg (l := 0) (l' := 0) _ m rfl)) (rdL_cons (rd_rl (rfl)) rdL_nil)) (Cd.rlR cInt f01 0 _) rfl (fun j => by simp [V.rnA, V.rnAL, V.rl, upJ, dn]) rfl ?_
        refine sxk 4 tabOK rfl ?_
        refine aops_nil ?_
        refine at_ret ?_
        obtain rfl := Option.some.inj hF
        exact ⟨_, rfl, 4, rfl, rfl⟩

theorem s_HasScope_ok (list : List Int) (x_1 : Int) (q : Bool) (hF : s_HasScope list x_1 = some q) : FC Try.prog 121 [.psl 0 1 (list.map (cInt.enc 0)), .int .i64 x_1] [] 3 (fun x _ => x = .bool q) := by
  refine FC.of_le ?_
  refine fc_body tabOK Try.func121 rfl Try.ntmps121 rfl rfl rfl ?_
  unfold s_HasScope at hF
  refine at_seq ?_
  refine at_region ?_
  refine sxk 1 tabOK rfl ?_
  refine aops_nil ?_
  refine at_seq ?_
  refine at_seq ?_
  refine at_region ?_
  refine sxk 1 tabOK rfl ?_
  refine sv rfl (oc_len cInt tabOK rfl rfl rfl) rfl ?_
  refine sxk 1 tabOK rfl ?_
  refine aops_nil ?_
  refine at_block ?_
  refine cl_loop (σ := Int) (fun x3 => ⟨[(1, .int .i64 x_1), (7, .psl 0 1 (list.map (cInt.enc 0))), (8, .int .i64 (list.length : Int)), (9, .int .i64 x3)], [], 3, 17, []⟩) (s_HasScope_L1 list x_1) LF 0 hF (le_down (down_all (ee_cons rfl rfl rfl (ee_cons rfl rfl (cInt.ok_psl _ rfl) (ee_cons rfl rfl rfl (ee_cons rfl rfl rfl ee_nil)))) he_nil rfl rfl rfl rfl)) ?_
  rintro lk_ x3 hF
  refine at_eq (s' := ⟨[(1, .int .i64 x_1), (7, .psl 0 1 (list.map (cInt.enc 0))), (8, .int .i64 (list.length : Int)), (9, .int .i64 x3)], [], 3, 17, []⟩) rfl ?_
  replace hF : s_HasScope_L1b list x_1 (itr (s_HasScope_L1 list x_1) lk_) x3 = some q := hF
  unfold s_HasScope_L1b at hF
  generalize itr (s_HasScope_L1 list x_1) lk_ = go4 at hF ⊢
  refine at_seq ?_
  refine at_region ?_
  refine sxk 1 tabOK rfl ?_
  refine aops_nil ?_
  refine at_seq ?_
  refine ct_if hF rfl (fun hc hF => ?_) (fun hc hF => ?_)
  · refine at_skip ?_
    refine at_seq ?_
    refine at_block ?_
    refine at_seq ?_
    refine at_region ?_
    obtain ⟨x5, hn_x5, hF⟩ := bnd_some hF
    refine sv rfl (oc_addr cInt hn_x5 tabOK rfl rfl rfl rfl) rfl ?_
    refine sxk 2 tabOK rfl ?_
    refine aops_nil ?_
    refine at_seq ?_
    refine at_region ?_
    refine sxk 3 tabOK rfl ?_
    refine aops_nil ?_
    refine ct_if hF rfl (fun hc hF => ?_) (fun hc hF => ?_)
    · refine at_seq ?_
      refine at_keep [] rfl ?_
      refine at_region ?_
      refine sxk 1 tabOK rfl ?_
      refine aops_nil ?_
      refine at_ret ?_
      refine bk_r ?_
      refine tk_r ?_
      refine ll_r ?_
      refine bk_r ?_
      refine tk_r ?_
      obtain rfl := Option.some.inj hF
      refine ret_le rfl ?_
      exact (vle_refl _)
    · refine at_skip ?_
      refine bk_n ?_
      refine at_keep [1, 7, 8, 9] rfl ?_
      refine at_region ?_
      obtain ⟨hb, hF⟩ := chk_some hF
      refine s_add tabOK rfl rfl rfl hb rfl ?_
      refine sxk 1 tabOK rfl ?_
      refine aops_nil ?_
      exact arr_loop ⟨(x3 + 1), hF, (le_down (down_all (ee_cons rfl rfl rfl (ee_cons rfl rfl (cInt.ok_psl _ rfl) (ee_cons rfl rfl rfl (ee_cons rfl rfl rfl ee_nil)))) he_nil rfl rfl rfl rfl))⟩
  · refine at_exit ?_
    refine tk_x ?_
    refine ll_x ?_
    refine bk_hit ?_
    refine at_seq ?_
    refine at_region ?_
    refine sxk 1 tabOK rfl ?_
    refine aops_nil ?_
    refine at_ret ?_
    obtain rfl := Option.some.inj hF
    refine ret_le rfl ?_
    exact (vle_refl _)

end Go.Proofs.Ytiecdekmiabmkaa
