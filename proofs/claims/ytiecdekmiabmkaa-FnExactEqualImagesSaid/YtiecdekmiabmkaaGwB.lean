/-
  Walks, made by wip/gen: B
-/
import Derived.Test.YtiecdekmiabmkaaGpB
import Derived.Test.YtiecdekmiabmkaaGwA
set_option linter.unusedVariables false
set_option linter.unusedSimpArgs false
namespace Go.Proofs.Ytiecdekmiabmkaa
open Go.Abs
attribute [local irreducible] AT AOps FC DR DN
set_option maxRecDepth 10000
set_option maxHeartbeats 4000000

theorem i_depthsOf_ok (m : PImage) (code : Int) (q : List Int × Bool) (hF : i_depthsOf m code = some q) : FC Try.prog 85 [.agg (cImage.row 0 m), .int .i64 code] [] 3 (fun x _ => x = .tup [.psl 1 1 (q.1.map (cInt.enc 1)), .bool q.2]) := by
  refine FC.of_le ?_
  refine fc_body tabOK Try.func85 rfl Try.ntmps85 rfl rfl rfl ?_
  unfold i_depthsOf at hF
  refine at_seq ?_
  refine at_region ?_
  refine sxk 3 tabOK rfl ?_
  refine aops_nil ?_
  refine at_seq ?_
  refine at_region ?_
  refine sxk 3 tabOK rfl ?_
  obtain ⟨x3, hn_x3, hF⟩ := bnd_some hF
  refine sv rfl (oc_addr cCode hn_x3 tabOK rfl rfl rfl rfl) rfl ?_
  refine sxk 3 tabOK rfl ?_
  refine aops_nil ?_
  refine at_seq ?_
  refine at_keep [2, 6] rfl ?_
  refine at_region ?_
  refine sxk 1 tabOK rfl ?_
  refine sv rfl (oc_len cInstr tabOK rfl rfl rfl) rfl ?_
  obtain ⟨hb, hF⟩ := chk_some hF
  refine sc_make cInt (l := 0) (v := (0 : Int)) hb tabOK rfl rfl rfl rfl (vleL_refl _) rfl rfl rfl ?_
  refine sxk 1 tabOK rfl ?_
  refine aops_nil ?_
  refine at_seq ?_
  refine at_seq ?_
  refine at_region ?_
  refine sxk 1 tabOK rfl ?_
  refine sv rfl (oc_hlen cInt tabOK rfl rfl rfl) rfl ?_
  refine sxk 1 tabOK rfl ?_
  refine aops_nil ?_
  refine at_block ?_
  refine cl_loop (σ := Int × List Int) (fun v => match v with | (x4, out5) => ⟨[(2, .ptr 3 1 0 0), (6, .psl 0 6 (x3.instrs.map (cInstr.enc 0))), (7, .hsl 4 0 out5.length), (27, .int .i64 ((List.replicate (x3.instrs.length : Int).toNat (0 : Int)).length : Int)), (28, .int .i64 x4)], [(3, ⟨2, [cImage.row 0 m]⟩), (4, ⟨1, out5.map (cInt.enc 0)⟩)], 5, 130, []⟩) (i_depthsOf_L1 m x3) LF (0, (List.replicate (x3.instrs.length : Int).toNat (0 : Int))) hF (le_down (down_all (ee_cons rfl rfl (Nat.le_of_ble_eq_true rfl) (ee_cons rfl rfl (cInstr.ok_psl _ rfl) (ee_cons rfl rfl (Nat.le_of_ble_eq_true rfl) (ee_cons rfl rfl rfl (ee_cons rfl rfl rfl ee_nil))))) (he_cons rfl rfl rfl (row_one (cImage.row_ok _ rfl)) (he_cons rfl rfl rfl (cInt.rows_ok _ rfl) he_nil)) rfl rfl rfl rfl)) ?_
  rintro lk_ ⟨x4, out5⟩ hF
  refine at_eq (s' := ⟨[(2, .ptr 3 1 0 0), (6, .psl 0 6 (x3.instrs.map (cInstr.enc 0))), (7, .hsl 4 0 out5.length), (27, .int .i64 ((List.replicate (x3.instrs.length : Int).toNat (0 : Int)).length : Int)), (28, .int .i64 x4)], [(3, ⟨2, [cImage.row 0 m]⟩), (4, ⟨1, out5.map (cInt.enc 0)⟩)], 5, 130, []⟩) rfl ?_
  replace hF : i_depthsOf_L1b m x3 (itr (i_depthsOf_L1 m x3) lk_) x4 out5 = some q := hF
  unfold i_depthsOf_L1b at hF
  generalize itr (i_depthsOf_L1 m x3) lk_ = go6 at hF ⊢
  refine at_seq ?_
  refine at_region ?_
  refine sxk 1 tabOK rfl ?_
  refine aops_nil ?_
  refine at_seq ?_
  refine ct_if hF rfl (fun hc hF => ?_) (fun hc hF => ?_)
  · refine at_skip ?_
    refine at_seq ?_
    refine at_block ?_
    refine at_seq ?_
    refine at_region ?_
    refine sxk 2 tabOK rfl ?_
    refine aops_nil ?_
    refine at_region ?_
    refine sxk 2 tabOK rfl ?_
    obtain ⟨x7, hn_x7, hF⟩ := bnd_some hF
    refine sv rfl (oc_haddr cInt hn_x7 tabOK rfl rfl rfl rfl) rfl ?_
    refine sc_store cInt (v' := (-1)) hn_x7 tabOK rfl rfl rfl rfl rfl rfl rfl rfl ?_
    refine ops_le (le_slot (y := .hsl 4 0 (out5.set x4.toNat (-1)).length) 7 rfl (vle_eq (congrArg (V.hsl 4 0) (by simp))) rfl) ?_
    refine aops_nil ?_
    refine bk_n ?_
    refine at_region ?_
    obtain ⟨hb, hF⟩ := chk_some hF
    refine s_add tabOK rfl rfl rfl hb rfl ?_
    refine sxk 1 tabOK rfl ?_
    refine aops_nil ?_
    exact arr_loop ⟨((x4 + 1), (out5.set x4.toNat (-1))), hF, (le_down (down_all (ee_cons rfl rfl (Nat.le_of_ble_eq_true rfl) (ee_cons rfl rfl (cInstr.ok_psl _ rfl) (ee_cons rfl rfl (Nat.le_of_ble_eq_true rfl) (ee_cons rfl rfl rfl (ee_cons rfl rfl rfl ee_nil))))) (he_cons rfl rfl rfl (row_one (cImage.row_ok _ rfl)) (he_cons rfl rfl rfl (cInt.rows_ok _ rfl) he_nil)) rfl rfl rfl rfl))⟩
  · refine at_exit ?_
    refine tk_x ?_
    refine ll_x ?_
    refine bk_hit ?_
    refine at_seq ?_
    refine at_region ?_
    refine sxk 1 tabOK rfl ?_
    obtain ⟨x7, hn_x7, hF⟩ := bnd_some hF
    refine sv rfl (oc_haddr cInt hn_x7 tabOK rfl rfl rfl rfl) rfl ?_
    refine sc_store cInt (v' := 0) hn_x7 tabOK rfl rfl rfl rfl rfl rfl rfl rfl ?_
    refine ops_le (le_slot (y := .hsl 4 0 (out5.set (0 : Int).toNat 0).length) 7 rfl (vle_eq (congrArg (V.hsl 4 0) (by simp))) rfl) ?_
    refine aops_nil ?_
    refine at_seq ?_
    refine at_seq ?_
    refine at_region ?_
    refine sxk 1 tabOK rfl ?_
    refine sv rfl (oc_len cInstr tabOK rfl rfl rfl) rfl ?_
    refine sxk 1 tabOK rfl ?_
    refine aops_nil ?_
    refine at_block ?_
    refine cl_loop (σ := Int × List Int) (fun v => match v with | (x8, out9) => ⟨[(2, .ptr 3 1 0 0), (6, .psl 0 6 (x3.instrs.map (cInstr.enc 0))), (7, .hsl 4 0 out9.length), (37, .psl 0 6 (x3.instrs.map (cInstr.enc 0))), (38, .int .i64 (x3.instrs.length : Int)), (39, .int .i64 x8)], [(3, ⟨2, [cImage.row 0 m]⟩), (4, ⟨1, out9.map (cInt.enc 0)⟩)], 5, 130, []⟩) (i_depthsOf_L2 m x3) LF (0, (out5.set (0 : Int).toNat 0)) hF (le_down (down_all (ee_cons rfl rfl (Nat.le_of_ble_eq_true rfl) (ee_cons rfl rfl (cInstr.ok_psl _ rfl) (ee_cons rfl rfl (Nat.le_of_ble_eq_true rfl) (ee_cons rfl rfl (cInstr.ok_psl _ rfl) (ee_cons rfl rfl rfl (ee_cons rfl rfl rfl ee_nil)))))) (he_cons rfl rfl rfl (row_one (cImage.row_ok _ rfl)) (he_cons rfl rfl rfl (cInt.rows_ok _ rfl) he_nil)) rfl rfl rfl rfl)) ?_
    rintro lk_ ⟨x8, out9⟩ hF
    refine at_eq (s' := ⟨[(2, .ptr 3 1 0 0), (6, .psl 0 6 (x3.instrs.map (cInstr.enc 0))), (7, .hsl 4 0 out9.length), (37, .psl 0 6 (x3.instrs.map (cInstr.enc 0))), (38, .int .i64 (x3.instrs.length : Int)), (39, .int .i64 x8)], [(3, ⟨2, [cImage.row 0 m]⟩), (4, ⟨1, out9.map (cInt.enc 0)⟩)], 5, 130, []⟩) rfl ?_
    replace hF : i_depthsOf_L2b m x3 (itr (i_depthsOf_L2 m x3) lk_) x8 out9 = some q := hF
    unfold i_depthsOf_L2b at hF
    generalize itr (i_depthsOf_L2 m x3) lk_ = go10 at hF ⊢
    refine at_seq ?_
    refine at_region ?_
    refine sxk 1 tabOK rfl ?_
    refine aops_nil ?_
    refine at_seq ?_
    refine ct_if hF rfl (fun hc hF => ?_) (fun hc hF => ?_)
    · refine at_skip ?_
      refine at_seq ?_
      refine cl_midn (σ := List Int) (fun out11 => ⟨[(2, .ptr 3 1 0 0), (6, .psl 0 6 (x3.instrs.map (cInstr.enc 0))), (7, .hsl 4 0 out11.length), (37, .psl 0 6 (x3.instrs.map (cInstr.enc 0))), (38, .int .i64 (x3.instrs.length : Int)), (39, .int .i64 x8)], [(3, ⟨2, [cImage.row 0 m]⟩), (4, ⟨1, out11.map (cInt.enc 0)⟩)], 5, 130, []⟩) (fun out11 => i_depthsOf_J3 x8 go10 out11 = some q) ?_ ?_
      · refine at_block ?_
        refine at_seq ?_
        refine at_region ?_
        refine sxk 1 tabOK rfl ?_
        obtain ⟨x11, hn_x11, hF⟩ := bnd_some hF
        refine sv rfl (oc_addr cInstr hn_x11 tabOK rfl rfl rfl rfl) rfl ?_
        refine sxk 4 tabOK rfl ?_
        refine aops_nil ?_
        refine at_seq ?_
        refine at_seq ?_
        refine at_region ?_
        refine sxk 2 tabOK rfl ?_
        obtain ⟨x12, hn_x12, hF⟩ := bnd_some hF
        refine sv rfl (oc_haddr cInt hn_x12 tabOK rfl rfl rfl rfl) rfl ?_
        refine sv rfl (oc_load cInt hn_x12 tabOK rfl rfl rfl rfl) rfl ?_
        refine sxk 1 tabOK rfl ?_
        refine aops_nil ?_
        refine ct_if hF rfl (fun hc hF => ?_) (fun hc hF => ?_)
        · refine at_exit ?_
          refine tk_x ?_
          refine bk_hit ?_
          exact arr_cut ⟨out9, hF, (le_down (down_all (ee_cons rfl rfl (Nat.le_of_ble_eq_true rfl) (ee_cons rfl rfl (cInstr.ok_psl _ rfl) (ee_cons rfl rfl (Nat.le_of_ble_eq_true rfl) (ee_cons rfl rfl (cInstr.ok_psl _ rfl) (ee_cons rfl rfl rfl (ee_cons rfl rfl rfl ee_nil)))))) (he_cons rfl rfl rfl (row_one (cImage.row_ok _ rfl)) (he_cons rfl rfl rfl (cInt.rows_ok _ rfl) he_nil)) rfl rfl rfl rfl))⟩
        · refine at_skip ?_
          refine at_seq ?_
          refine at_keep [2, 6, 7, 9, 10, 37, 38, 39] rfl ?_
          refine at_region ?_
          refine sxk 2 tabOK rfl ?_
          obtain ⟨x13, hx13, hF⟩ := bnd_some hF
          refine call_eq (i_effect_ok m x11 x13 hx13) rfl ((rlL_cons (cImage.rl_agg (l := 0) (l' := 0) _ m rfl) (rlL_cons (cInstr.rl_agg (l := 0) (l' := 0) _ x11 rfl) rlL_nil))) (rl_tupL (rlL_cons (rfl) (rlL_cons (rfl) rlL_nil))) rfl ?_
          refine sxk 5 tabOK rfl ?_
          refine aops_nil ?_
          refine at_seq ?_
          refine at_seq ?_
          refine at_region ?_
          refine sxk 3 tabOK rfl ?_
          obtain ⟨x14, hn_x14, hF⟩ := bnd_some hF
          refine sv rfl (oc_haddr cInt hn_x14 tabOK rfl rfl rfl rfl) rfl ?_
          refine sv rfl (oc_load cInt hn_x14 tabOK rfl rfl rfl rfl) rfl ?_
          refine sxk 1 tabOK rfl ?_
          refine aops_nil ?_
          refine ct_if hF rfl (fun hc hF => ?_) (fun hc hF => ?_)
          · refine at_seq ?_
            refine at_keep [] rfl ?_
            refine at_region ?_
            refine sxk 2 tabOK rfl ?_
            refine aops_nil ?_
            refine at_ret ?_
            refine tk_r ?_
            refine bk_r ?_
            refine tk_r ?_
            refine ll_r ?_
            refine bk_r ?_
            refine tk_r ?_
            obtain rfl := Option.some.inj hF
            refine ret_le rfl ?_
            exact (vle_tup (.cons (vle_nil _ _) (.cons (vle_refl _) .nil)))
          · refine at_skip ?_
            refine at_seq ?_
            refine at_keep [2, 6, 7, 9, 10, 11, 12, 37, 38, 39] rfl ?_
            refine at_region ?_
            refine sxk 2 tabOK rfl ?_
            obtain ⟨x15, hn_x15, hF⟩ := bnd_some hF
            refine sv rfl (oc_haddr cInt hn_x15 tabOK rfl rfl rfl rfl) rfl ?_
            refine sv rfl (oc_load cInt hn_x15 tabOK rfl rfl rfl rfl) rfl ?_
            refine sxk 1 tabOK rfl ?_
            obtain ⟨hb, hF⟩ := chk_some hF
            refine s_sub tabOK rfl rfl rfl hb rfl ?_
            refine sxk 1 tabOK rfl ?_
            obtain ⟨hb, hF⟩ := chk_some hF
            refine s_add tabOK rfl rfl rfl hb rfl ?_
            refine sxk 1 tabOK rfl ?_
            refine aops_nil ?_
            refine at_seq ?_
            refine at_seq ?_
            refine at_keep [2, 6, 7, 9, 10, 13, 37, 38, 39] rfl ?_
            refine at_region ?_
            refine sxk 2 tabOK rfl ?_
            refine aops_nil ?_
            refine ct_if hF rfl (fun hc hF => ?_) (fun hc hF => ?_)
            · refine at_seq ?_
              refine at_keep [] rfl ?_
              refine at_region ?_
              refine sxk 2 tabOK rfl ?_
              refine aops_nil ?_
              refine at_ret ?_
              refine tk_r ?_
              refine bk_r ?_
              refine tk_r ?_
              refine ll_r ?_
              refine bk_r ?_
              refine tk_r ?_
              obtain rfl := Option.some.inj hF
              refine ret_le rfl ?_
              exact (vle_tup (.cons (vle_nil _ _) (.cons (vle_refl _) .nil)))
            · refine at_skip ?_
              refine at_seq ?_
              refine at_region ?_
              refine sxk 1 tabOK rfl ?_
              refine aops_nil ?_
              refine at_seq ?_
              refine at_seq ?_
              refine at_region ?_
              refine sxk 2 tabOK rfl ?_
              refine aops_nil ?_
              refine cl_midn (σ := List Int) (fun next16 => ⟨[(2, .ptr 3 1 0 0), (6, .psl 0 6 (x3.instrs.map (cInstr.enc 0))), (7, .hsl 4 0 out9.length), (9, .int .i64 x8), (13, .int .i64 ((x15 - x13.1) + x13.2)), (14, .hsl 6 0 next16.length), (37, .psl 0 6 (x3.instrs.map (cInstr.enc 0))), (38, .int .i64 (x3.instrs.length : Int)), (39, .int .i64 x8)], [(3, ⟨2, [cImage.row 0 m]⟩), (4, ⟨1, out9.map (cInt.enc 0)⟩), (6, ⟨1, next16.map (cInt.enc 0)⟩)], 7, 130, []⟩) (fun next16 => i_depthsOf_J4 x3 x8 out9 go10 x13 x15 next16 = some q) ?_ ?_
              · refine at_block ?_
                refine at_seq ?_
                refine at_seq ?_
                refine at_region ?_
                refine sxk 2 tabOK rfl ?_
                refine aops_nil ?_
                refine cl_midn (σ := Bool) (fun x16 => ⟨[(2, .ptr 3 1 0 0), (6, .psl 0 6 (x3.instrs.map (cInstr.enc 0))), (7, .hsl 4 0 out9.length), (9, .int .i64 x8), (10, .ptr 5 1 0 0), (13, .int .i64 ((x15 - x13.1) + x13.2)), (14, .nilsl), (37, .psl 0 6 (x3.instrs.map (cInstr.enc 0))), (38, .int .i64 (x3.instrs.length : Int)), (39, .int .i64 x8), (72, .int .i64 x11.op), (76, .bool x16)], [(3, ⟨2, [cImage.row 0 m]⟩), (4, ⟨1, out9.map (cInt.enc 0)⟩), (5, ⟨6, [cInstr.row 0 x11]⟩)], 6, 130, []⟩) (fun x16 => i_depthsOf_J7 x3 x8 out9 go10 x11 x13 x15 x16 = some q) ?_ ?_
                · refine ct_if hF rfl (fun hc hF => ?_) (fun hc hF => ?_)
                  · refine at_skip ?_
                    exact arr_cut ⟨true, hF, (le_down (down_all (ee_cons rfl rfl (Nat.le_of_ble_eq_true rfl) (ee_cons rfl rfl (cInstr.ok_psl _ rfl) (ee_cons rfl rfl (Nat.le_of_ble_eq_true rfl) (ee_cons rfl rfl rfl (ee_cons rfl rfl (Nat.le_of_ble_eq_true rfl) (ee_cons rfl rfl rfl (ee_cons rfl rfl rfl (ee_cons rfl rfl (cInstr.ok_psl _ rfl) (ee_cons rfl rfl rfl (ee_cons rfl rfl rfl (ee_cons rfl rfl rfl (ee_cons rfl rfl rfl ee_nil)))))))))))) (he_cons rfl rfl rfl (row_one (cImage.row_ok _ rfl)) (he_cons rfl rfl rfl (cInt.rows_ok _ rfl) (he_cons rfl rfl rfl (row_one (cInstr.row_ok _ rfl)) he_nil))) rfl rfl rfl rfl))⟩
                  · refine at_region ?_
                    refine sxk 2 tabOK rfl ?_
                    refine aops_nil ?_
                    exact arr_cut ⟨(decide (x11.op = 13)), hF, (le_down (down_all (ee_cons rfl rfl (Nat.le_of_ble_eq_true rfl) (ee_cons rfl rfl (cInstr.ok_psl _ rfl) (ee_cons rfl rfl (Nat.le_of_ble_eq_true rfl) (ee_cons rfl rfl rfl (ee_cons rfl rfl (Nat.le_of_ble_eq_true rfl) (ee_cons rfl rfl rfl (ee_cons rfl rfl rfl (ee_cons rfl rfl (cInstr.ok_psl _ rfl) (ee_cons rfl rfl rfl (ee_cons rfl rfl rfl (ee_cons rfl rfl rfl (ee_cons rfl rfl rfl ee_nil)))))))))))) (he_cons rfl rfl rfl (row_one (cImage.row_ok _ rfl)) (he_cons rfl rfl rfl (cInt.rows_ok _ rfl) (he_cons rfl rfl rfl (row_one (cInstr.row_ok _ rfl)) he_nil))) rfl rfl rfl rfl))⟩
                · rintro x16 hF
                  refine at_eq (s' := ⟨[(2, .ptr 3 1 0 0), (6, .psl 0 6 (x3.instrs.map (cInstr.enc 0))), (7, .hsl 4 0 out9.length), (9, .int .i64 x8), (10, .ptr 5 1 0 0), (13, .int .i64 ((x15 - x13.1) + x13.2)), (14, .nilsl), (37, .psl 0 6 (x3.instrs.map (cInstr.enc 0))), (38, .int .i64 (x3.instrs.length : Int)), (39, .int .i64 x8), (72, .int .i64 x11.op), (76, .bool x16)], [(3, ⟨2, [cImage.row 0 m]⟩), (4, ⟨1, out9.map (cInt.enc 0)⟩), (5, ⟨6, [cInstr.row 0 x11]⟩)], 6, 130, []⟩) rfl ?_
                  replace hF : i_depthsOf_J7 x3 x8 out9 go10 x11 x13 x15 x16 = some q := hF
                  unfold i_depthsOf_J7 at hF
                  refine ct_b hF rfl (fun hc hF => ?_) (fun hc hF => ?_)
                  · refine at_seq ?_
                    refine at_region ?_
                    refine sxk 2 tabOK rfl ?_
                    refine aops_nil ?_
                    refine ct_ifn hF rfl (fun hc hF => ?_) (fun hc hF => ?_)
                    · refine at_seq ?_
                      refine at_keep [] rfl ?_
                      refine at_region ?_
                      refine sxk 2 tabOK rfl ?_
                      refine aops_nil ?_
                      refine at_ret ?_
                      refine bk_r ?_
                      refine tk_r ?_
                      refine bk_r ?_
                      refine tk_r ?_
                      refine ll_r ?_
                      refine bk_r ?_
                      refine tk_r ?_
                      obtain rfl := Option.some.inj hF
                      refine ret_le rfl ?_
                      exact (vle_tup (.cons (vle_nil _ _) (.cons (vle_refl _) .nil)))
                    · refine at_skip ?_
                      refine bk_n ?_
                      exact arr_cut ⟨[], hF, ((le_nilrow 14 1 rfl rfl).trans (le_down (down_all (ee_cons rfl rfl (Nat.le_of_ble_eq_true rfl) (ee_cons rfl rfl (cInstr.ok_psl _ rfl) (ee_cons rfl rfl (Nat.le_of_ble_eq_true rfl) (ee_cons rfl rfl rfl (ee_cons rfl rfl rfl (ee_cons rfl rfl (Nat.le_of_ble_eq_true rfl) (ee_cons rfl rfl (cInstr.ok_psl _ rfl) (ee_cons rfl rfl rfl (ee_cons rfl rfl rfl ee_nil))))))))) (he_cons rfl rfl rfl (row_one (cImage.row_ok _ rfl)) (he_cons rfl rfl rfl (cInt.rows_ok _ rfl) (he_cons rfl rfl rfl (cInt.rows_ok _ rfl) he_nil))) rfl rfl rfl rfl)))⟩
                  · refine at_seq ?_
                    refine at_region ?_
                    refine sxk 2 tabOK rfl ?_
                    refine aops_nil ?_
                    refine ct_if hF rfl (fun hc hF => ?_) (fun hc hF => ?_)
                    · refine at_region ?_
                      refine sxk 2 tabOK rfl ?_
                      refine sc_slit cInt (l := 0) ([x11.a] : List Int) tabOK rfl rfl rfl rfl rfl rfl rfl ?_
                      refine sxk 1 tabOK rfl ?_
                      refine aops_nil ?_
                      refine bk_n ?_
                      exact arr_cut ⟨([x11.a] : List Int), hF, (le_down (down_all (ee_cons rfl rfl (Nat.le_of_ble_eq_true rfl) (ee_cons rfl rfl (cInstr.ok_psl _ rfl) (ee_cons rfl rfl (Nat.le_of_ble_eq_true rfl) (ee_cons rfl rfl rfl (ee_cons rfl rfl rfl (ee_cons rfl rfl (Nat.le_of_ble_eq_true rfl) (ee_cons rfl rfl (cInstr.ok_psl _ rfl) (ee_cons rfl rfl rfl (ee_cons rfl rfl rfl ee_nil))))))))) (he_cons rfl rfl rfl (row_one (cImage.row_ok _ rfl)) (he_cons rfl rfl rfl (cInt.rows_ok _ rfl) (he_cons rfl rfl rfl (cInt.rows_ok _ rfl) he_nil))) rfl rfl rfl rfl))⟩
                    · refine at_seq ?_
                      refine at_region ?_
                      refine sxk 2 tabOK rfl ?_
                      refine aops_nil ?_
                      refine ct_if hF rfl (fun hc hF => ?_) (fun hc hF => ?_)
                      · refine at_keep [2, 6, 7, 9, 10, 13, 37, 38, 39] rfl ?_
                        refine at_region ?_
                        refine sxk 1 tabOK rfl ?_
                        obtain ⟨hb, hF⟩ := chk_some hF
                        refine s_add tabOK rfl rfl rfl hb rfl ?_
                        refine sxk 2 tabOK rfl ?_
                        refine sc_slit cInt (l := 0) ([(x8 + 1), x11.a] : List Int) tabOK rfl rfl rfl rfl rfl rfl rfl ?_
                        refine sxk 1 tabOK rfl ?_
                        refine aops_nil ?_
                        refine bk_n ?_
                        exact arr_cut ⟨([(x8 + 1), x11.a] : List Int), hF, (le_down (down_all (ee_cons rfl rfl (Nat.le_of_ble_eq_true rfl) (ee_cons rfl rfl (cInstr.ok_psl _ rfl) (ee_cons rfl rfl (Nat.le_of_ble_eq_true rfl) (ee_cons rfl rfl rfl (ee_cons rfl rfl rfl (ee_cons rfl rfl (Nat.le_of_ble_eq_true rfl) (ee_cons rfl rfl (cInstr.ok_psl _ rfl) (ee_cons rfl rfl rfl (ee_cons rfl rfl rfl ee_nil))))))))) (he_cons rfl rfl rfl (row_one (cImage.row_ok _ rfl)) (he_cons rfl rfl rfl (cInt.rows_ok _ rfl) (he_cons rfl rfl rfl (cInt.rows_ok _ rfl) he_nil))) rfl rfl rfl rfl))⟩
                      · refine at_keep [2, 6, 7, 9, 13, 37, 38, 39] rfl ?_
                        refine at_region ?_
                        refine sxk 1 tabOK rfl ?_
                        obtain ⟨hb, hF⟩ := chk_some hF
                        refine s_add tabOK rfl rfl rfl hb rfl ?_
                        refine sc_slit cInt (l := 0) ([(x8 + 1)] : List Int) tabOK rfl rfl rfl rfl rfl rfl rfl ?_
                        refine sxk 1 tabOK rfl ?_
                        refine aops_nil ?_
                        refine bk_n ?_
                        exact arr_cut ⟨([(x8 + 1)] : List Int), hF, (le_down (down_all (ee_cons rfl rfl (Nat.le_of_ble_eq_true rfl) (ee_cons rfl rfl (cInstr.ok_psl _ rfl) (ee_cons rfl rfl (Nat.le_of_ble_eq_true rfl) (ee_cons rfl rfl rfl (ee_cons rfl rfl rfl (ee_cons rfl rfl (Nat.le_of_ble_eq_true rfl) (ee_cons rfl rfl (cInstr.ok_psl _ rfl) (ee_cons rfl rfl rfl (ee_cons rfl rfl rfl ee_nil))))))))) (he_cons rfl rfl rfl (row_one (cImage.row_ok _ rfl)) (he_cons rfl rfl rfl (cInt.rows_ok _ rfl) (he_cons rfl rfl rfl (cInt.rows_ok _ rfl) he_nil))) rfl rfl rfl rfl))⟩
              · rintro next16 hF
                refine at_eq (s' := ⟨[(2, .ptr 3 1 0 0), (6, .psl 0 6 (x3.instrs.map (cInstr.enc 0))), (7, .hsl 4 0 out9.length), (9, .int .i64 x8), (13, .int .i64 ((x15 - x13.1) + x13.2)), (14, .hsl 6 0 next16.length), (37, .psl 0 6 (x3.instrs.map (cInstr.enc 0))), (38, .int .i64 (x3.instrs.length : Int)), (39, .int .i64 x8)], [(3, ⟨2, [cImage.row 0 m]⟩), (4, ⟨1, out9.map (cInt.enc 0)⟩), (6, ⟨1, next16.map (cInt.enc 0)⟩)], 7, 130, []⟩) rfl ?_
                replace hF : i_depthsOf_J4 x3 x8 out9 go10 x13 x15 next16 = some q := hF
                unfold i_depthsOf_J4 at hF
                refine at_seq ?_
                refine at_region ?_
                refine sxk 1 tabOK rfl ?_
                refine sv rfl (oc_hlen cInt tabOK rfl rfl rfl) rfl ?_
                refine sxk 1 tabOK rfl ?_
                refine aops_nil ?_
                refine at_block ?_
                refine cl_loop (σ := Int × List Int) (fun v => match v with | (x17, out18) => ⟨[(2, .ptr 3 1 0 0), (6, .psl 0 6 (x3.instrs.map (cInstr.enc 0))), (7, .hsl 4 0 out18.length), (9, .int .i64 x8), (13, .int .i64 ((x15 - x13.1) + x13.2)), (37, .psl 0 6 (x3.instrs.map (cInstr.enc 0))), (38, .int .i64 (x3.instrs.length : Int)), (39, .int .i64 x8), (93, .hsl 6 0 next16.length), (94, .int .i64 (next16.length : Int)), (95, .int .i64 x17)], [(3, ⟨2, [cImage.row 0 m]⟩), (4, ⟨1, out18.map (cInt.enc 0)⟩), (6, ⟨1, next16.map (cInt.enc 0)⟩)], 7, 130, []⟩) (i_depthsOf_L5 x3 x8 go10 x13 x15 next16) LF (0, out9) hF (le_down (down_all (ee_cons rfl rfl (Nat.le_of_ble_eq_true rfl) (ee_cons rfl rfl (cInstr.ok_psl _ rfl) (ee_cons rfl rfl (Nat.le_of_ble_eq_true rfl) (ee_cons rfl rfl rfl (ee_cons rfl rfl rfl (ee_cons rfl rfl (cInstr.ok_psl _ rfl) (ee_cons rfl rfl rfl (ee_cons rfl rfl rfl (ee_cons rfl rfl (Nat.le_of_ble_eq_true rfl) (ee_cons rfl rfl rfl (ee_cons rfl rfl rfl ee_nil))))))))))) (he_cons rfl rfl rfl (row_one (cImage.row_ok _ rfl)) (he_cons rfl rfl rfl (cInt.rows_ok _ rfl) (he_cons rfl rfl rfl (cInt.rows_ok _ rfl) he_nil))) rfl rfl rfl rfl)) ?_
                rintro lk_ ⟨x17, out18⟩ hF
                refine at_eq (s' := ⟨[(2, .ptr 3 1 0 0), (6, .psl 0 6 (x3.instrs.map (cInstr.enc 0))), (7, .hsl 4 0 out18.length), (9, .int .i64 x8), (13, .int .i64 ((x15 - x13.1) + x13.2)), (37, .psl 0 6 (x3.instrs.map (cInstr.enc 0))), (38, .int .i64 (x3.instrs.length : Int)), (39, .int .i64 x8), (93, .hsl 6 0 next16.length), (94, .int .i64 (next16.length : Int)), (95, .int .i64 x17)], [(3, ⟨2, [cImage.row 0 m]⟩), (4, ⟨1, out18.map (cInt.enc 0)⟩), (6, ⟨1, next16.map (cInt.enc 0)⟩)], 7, 130, []⟩) rfl ?_
                replace hF : i_depthsOf_L5b x3 x8 go10 x13 x15 next16 (itr (i_depthsOf_L5 x3 x8 go10 x13 x15 next16) lk_) x17 out18 = some q := hF
                unfold i_depthsOf_L5b at hF
                generalize itr (i_depthsOf_L5 x3 x8 go10 x13 x15 next16) lk_ = go19 at hF ⊢
                refine at_seq ?_
                refine at_region ?_
                refine sxk 1 tabOK rfl ?_
                refine aops_nil ?_
                refine at_seq ?_
                refine ct_if hF rfl (fun hc hF => ?_) (fun hc hF => ?_)
                · refine at_skip ?_
                  refine at_seq ?_
                  refine at_block ?_
                  refine at_seq ?_
                  refine at_region ?_
                  obtain ⟨x20, hn_x20, hF⟩ := bnd_some hF
                  refine sv rfl (oc_haddr cInt hn_x20 tabOK rfl rfl rfl rfl) rfl ?_
                  refine sv rfl (oc_load cInt hn_x20 tabOK rfl rfl rfl rfl) rfl ?_
                  refine sxk 1 tabOK rfl ?_
                  refine aops_nil ?_
                  refine at_seq ?_
                  refine at_seq ?_
                  refine cl_midn (σ := Bool) (fun x21 => ⟨[(2, .ptr 3 1 0 0), (6, .psl 0 6 (x3.instrs.map (cInstr.enc 0))), (7, .hsl 4 0 out18.length), (9, .int .i64 x8), (13, .int .i64 ((x15 - x13.1) + x13.2)), (16, .int .i64 x20), (37, .psl 0 6 (x3.instrs.map (cInstr.enc 0))), (38, .int .i64 (x3.instrs.length : Int)), (39, .int .i64 x8), (93, .hsl 6 0 next16.length), (94, .int .i64 (next16.length : Int)), (95, .int .i64 x17), (122, .bool x21)], [(3, ⟨2, [cImage.row 0 m]⟩), (4, ⟨1, out18.map (cInt.enc 0)⟩), (6, ⟨1, next16.map (cInt.enc 0)⟩)], 7, 130, []⟩) (fun x21 => i_depthsOf_J6 x13 x15 x17 out18 go19 x20 x21 = some q) ?_ ?_
                  · refine at_region ?_
                    refine sxk 4 tabOK rfl ?_
                    refine ops_if (g := 102) hF rfl (fun hc hF => ?_) (fun hc hF => ?_)
                    · refine sxk 20 tabOK rfl ?_
                      refine aops_nil ?_
                      exact arr_cut ⟨true, hF, (le_down (down_all (ee_cons rfl rfl (Nat.le_of_ble_eq_true rfl) (ee_cons rfl rfl (cInstr.ok_psl _ rfl) (ee_cons rfl rfl (Nat.le_of_ble_eq_true rfl) (ee_cons rfl rfl rfl (ee_cons rfl rfl rfl (ee_cons rfl rfl rfl (ee_cons rfl rfl (cInstr.ok_psl _ rfl) (ee_cons rfl rfl rfl (ee_cons rfl rfl rfl (ee_cons rfl rfl (Nat.le_of_ble_eq_true rfl) (ee_cons rfl rfl rfl (ee_cons rfl rfl rfl (ee_cons rfl rfl rfl ee_nil))))))))))))) (he_cons rfl rfl rfl (row_one (cImage.row_ok _ rfl)) (he_cons rfl rfl rfl (cInt.rows_ok _ rfl) (he_cons rfl rfl rfl (cInt.rows_ok _ rfl) he_nil))) rfl rfl rfl rfl))⟩
                    · refine sxk 2 tabOK rfl ?_
                      refine sv rfl (oc_len cInstr tabOK rfl rfl rfl) rfl ?_
                      refine sxk 3 tabOK rfl ?_
                      refine ops_if (g := 108) hF rfl (fun hc hF => ?_) (fun hc hF => ?_)
                      · refine sxk 14 tabOK rfl ?_
                        refine aops_nil ?_
                        exact arr_cut ⟨true, hF, (le_down (down_all (ee_cons rfl rfl (Nat.le_of_ble_eq_true rfl) (ee_cons rfl rfl (cInstr.ok_psl _ rfl) (ee_cons rfl rfl (Nat.le_of_ble_eq_true rfl) (ee_cons rfl rfl rfl (ee_cons rfl rfl rfl (ee_cons rfl rfl rfl (ee_cons rfl rfl (cInstr.ok_psl _ rfl) (ee_cons rfl rfl rfl (ee_cons rfl rfl rfl (ee_cons rfl rfl (Nat.le_of_ble_eq_true rfl) (ee_cons rfl rfl rfl (ee_cons rfl rfl rfl (ee_cons rfl rfl rfl ee_nil))))))))))))) (he_cons rfl rfl rfl (row_one (cImage.row_ok _ rfl)) (he_cons rfl rfl rfl (cInt.rows_ok _ rfl) (he_cons rfl rfl rfl (cInt.rows_ok _ rfl) he_nil))) rfl rfl rfl rfl))⟩
                      · refine sxk 2 tabOK rfl ?_
                        obtain ⟨x21, hn_x21, hF⟩ := bnd_some hF
                        refine sv rfl (oc_haddr cInt hn_x21 tabOK rfl rfl rfl rfl) rfl ?_
                        refine sv rfl (oc_load cInt hn_x21 tabOK rfl rfl rfl rfl) rfl ?_
                        refine sxk 2 tabOK rfl ?_
                        refine ops_if (g := 114) hF rfl (fun hc hF => ?_) (fun hc hF => ?_)
                        · refine sxk 2 tabOK rfl ?_
                          obtain ⟨x22, hn_x22, hF⟩ := bnd_some hF
                          refine sv rfl (oc_haddr cInt hn_x22 tabOK rfl rfl rfl rfl) rfl ?_
                          refine sv rfl (oc_load cInt hn_x22 tabOK rfl rfl rfl rfl) rfl ?_
                          refine sxk 4 tabOK rfl ?_
                          refine aops_nil ?_
                          exact arr_cut ⟨(!decide (x22 = ((x15 - x13.1) + x13.2))), hF, (le_down (down_all (ee_cons rfl rfl (Nat.le_of_ble_eq_true rfl) (ee_cons rfl rfl (cInstr.ok_psl _ rfl) (ee_cons rfl rfl (Nat.le_of_ble_eq_true rfl) (ee_cons rfl rfl rfl (ee_cons rfl rfl rfl (ee_cons rfl rfl rfl (ee_cons rfl rfl (cInstr.ok_psl _ rfl) (ee_cons rfl rfl rfl (ee_cons rfl rfl rfl (ee_cons rfl rfl (Nat.le_of_ble_eq_true rfl) (ee_cons rfl rfl rfl (ee_cons rfl rfl rfl (ee_cons rfl rfl rfl ee_nil))))))))))))) (he_cons rfl rfl rfl (row_one (cImage.row_ok _ rfl)) (he_cons rfl rfl rfl (cInt.rows_ok _ rfl) (he_cons rfl rfl rfl (cInt.rows_ok _ rfl) he_nil))) rfl rfl rfl rfl))⟩
                        · refine sxk 8 tabOK rfl ?_
                          refine aops_nil ?_
                          exact arr_cut ⟨false, hF, (le_down (down_all (ee_cons rfl rfl (Nat.le_of_ble_eq_true rfl) (ee_cons rfl rfl (cInstr.ok_psl _ rfl) (ee_cons rfl rfl (Nat.le_of_ble_eq_true rfl) (ee_cons rfl rfl rfl (ee_cons rfl rfl rfl (ee_cons rfl rfl rfl (ee_cons rfl rfl (cInstr.ok_psl _ rfl) (ee_cons rfl rfl rfl (ee_cons rfl rfl rfl (ee_cons rfl rfl (Nat.le_of_ble_eq_true rfl) (ee_cons rfl rfl rfl (ee_cons rfl rfl rfl (ee_cons rfl rfl rfl ee_nil))))))))))))) (he_cons rfl rfl rfl (row_one (cImage.row_ok _ rfl)) (he_cons rfl rfl rfl (cInt.rows_ok _ rfl) (he_cons rfl rfl rfl (cInt.rows_ok _ rfl) he_nil))) rfl rfl rfl rfl))⟩
                  · rintro x21 hF
                    refine at_eq (s' := ⟨[(2, .ptr 3 1 0 0), (6, .psl 0 6 (x3.instrs.map (cInstr.enc 0))), (7, .hsl 4 0 out18.length), (9, .int .i64 x8), (13, .int .i64 ((x15 - x13.1) + x13.2)), (16, .int .i64 x20), (37, .psl 0 6 (x3.instrs.map (cInstr.enc 0))), (38, .int .i64 (x3.instrs.length : Int)), (39, .int .i64 x8), (93, .hsl 6 0 next16.length), (94, .int .i64 (next16.length : Int)), (95, .int .i64 x17), (122, .bool x21)], [(3, ⟨2, [cImage.row 0 m]⟩), (4, ⟨1, out18.map (cInt.enc 0)⟩), (6, ⟨1, next16.map (cInt.enc 0)⟩)], 7, 130, []⟩) rfl ?_
                    replace hF : i_depthsOf_J6 x13 x15 x17 out18 go19 x20 x21 = some q := hF
                    unfold i_depthsOf_J6 at hF
                    refine ct_b hF rfl (fun hc hF => ?_) (fun hc hF => ?_)
                    · refine at_seq ?_
                      refine at_keep [] rfl ?_
                      refine at_region ?_
                      refine sxk 2 tabOK rfl ?_
                      refine aops_nil ?_
                      refine at_ret ?_
                      refine tk_r ?_
                      refine bk_r ?_
                      refine tk_r ?_
                      refine ll_r ?_
                      refine bk_r ?_
                      refine bk_r ?_
                      refine tk_r ?_
                      refine ll_r ?_
                      refine bk_r ?_
                      refine tk_r ?_
                      obtain rfl := Option.some.inj hF
                      refine ret_le rfl ?_
                      exact (vle_tup (.cons (vle_nil _ _) (.cons (vle_refl _) .nil)))
                    · refine at_skip ?_
                      refine at_region ?_
                      refine sxk 3 tabOK rfl ?_
                      obtain ⟨x22, hn_x22, hF⟩ := bnd_some hF
                      refine sv rfl (oc_haddr cInt hn_x22 tabOK rfl rfl rfl rfl) rfl ?_
                      refine sc_store cInt (v' := ((x15 - x13.1) + x13.2)) hn_x22 tabOK rfl rfl rfl rfl rfl rfl rfl rfl ?_
                      refine ops_le (le_slot (y := .hsl 4 0 (out18.set x20.toNat ((x15 - x13.1) + x13.2)).length) 7 rfl (vle_eq (congrArg (V.hsl 4 0) (by simp))) rfl) ?_
                      refine aops_nil ?_
                      refine bk_n ?_
                      refine at_region ?_
                      obtain ⟨hb, hF⟩ := chk_some hF
                      refine s_add tabOK rfl rfl rfl hb rfl ?_
                      refine sxk 1 tabOK rfl ?_
                      refine aops_nil ?_
                      exact arr_loop ⟨((x17 + 1), (out18.set x20.toNat ((x15 - x13.1) + x13.2))), hF, (le_down (down_all (ee_cons rfl rfl (Nat.le_of_ble_eq_true rfl) (ee_cons rfl rfl (cInstr.ok_psl _ rfl) (ee_cons rfl rfl (Nat.le_of_ble_eq_true rfl) (ee_cons rfl rfl rfl (ee_cons rfl rfl rfl (ee_cons rfl rfl (cInstr.ok_psl _ rfl) (ee_cons rfl rfl rfl (ee_cons rfl rfl rfl (ee_cons rfl rfl (Nat.le_of_ble_eq_true rfl) (ee_cons rfl rfl rfl (ee_cons rfl rfl rfl ee_nil))))))))))) (he_cons rfl rfl rfl (row_one (cImage.row_ok _ rfl)) (he_cons rfl rfl rfl (cInt.rows_ok _ rfl) (he_cons rfl rfl rfl (cInt.rows_ok _ rfl) he_nil))) rfl rfl rfl rfl))⟩
                · refine at_exit ?_
                  refine tk_x ?_
                  refine ll_x ?_
                  refine bk_hit ?_
                  refine bk_n ?_
                  exact arr_cut ⟨out18, hF, (le_down (down_all (ee_cons rfl rfl (Nat.le_of_ble_eq_true rfl) (ee_cons rfl rfl (cInstr.ok_psl _ rfl) (ee_cons rfl rfl (Nat.le_of_ble_eq_true rfl) (ee_cons rfl rfl (cInstr.ok_psl _ rfl) (ee_cons rfl rfl rfl (ee_cons rfl rfl rfl ee_nil)))))) (he_cons rfl rfl rfl (row_one (cImage.row_ok _ rfl)) (he_cons rfl rfl rfl (cInt.rows_ok _ rfl) he_nil)) rfl rfl rfl rfl))⟩
      · rintro out11 hF
        refine at_eq (s' := ⟨[(2, .ptr 3 1 0 0), (6, .psl 0 6 (x3.instrs.map (cInstr.enc 0))), (7, .hsl 4 0 out11.length), (37, .psl 0 6 (x3.instrs.map (cInstr.enc 0))), (38, .int .i64 (x3.instrs.length : Int)), (39, .int .i64 x8)], [(3, ⟨2, [cImage.row 0 m]⟩), (4, ⟨1, out11.map (cInt.enc 0)⟩)], 5, 130, []⟩) rfl ?_
        replace hF : i_depthsOf_J3 x8 go10 out11 = some q := hF
        unfold i_depthsOf_J3 at hF
        refine at_region ?_
        obtain ⟨hb, hF⟩ := chk_some hF
        refine s_add tabOK rfl rfl rfl hb rfl ?_
        refine sxk 1 tabOK rfl ?_
        refine aops_nil ?_
        exact arr_loop ⟨((x8 + 1), out11), hF, (le_down (down_all (ee_cons rfl rfl (Nat.le_of_ble_eq_true rfl) (ee_cons rfl rfl (cInstr.ok_psl _ rfl) (ee_cons rfl rfl (Nat.le_of_ble_eq_true rfl) (ee_cons rfl rfl (cInstr.ok_psl _ rfl) (ee_cons rfl rfl rfl (ee_cons rfl rfl rfl ee_nil)))))) (he_cons rfl rfl rfl (row_one (cImage.row_ok _ rfl)) (he_cons rfl rfl rfl (cInt.rows_ok _ rfl) he_nil)) rfl rfl rfl rfl))⟩
    · refine at_exit ?_
      refine tk_x ?_
      refine ll_x ?_
      refine bk_hit ?_
      refine at_seq ?_
      refine at_region ?_
      refine sxk 3 tabOK rfl ?_
      refine aops_nil ?_
      refine at_le (le_freeze 4 rfl rfl (by simp) rfl) ?_
      refine at_ret ?_
      obtain rfl := Option.some.inj hF
      refine ret_le rfl ?_
      exact (vle_tup (.cons (vle_refl _) (.cons (vle_refl _) .nil)))

theorem i_StackDepths_ok (m : PImage) (code : Int) (q : List Int × Bool) (hF : i_StackDepths m code = some q) : FC Try.prog 44 [.agg (cImage.row 0 m), .int .i64 code] [] 3 (fun x _ => x = .tup [.psl 1 1 (q.1.map (cInt.enc 1)), .bool q.2]) := by
  refine FC.of_le ?_
  refine fc_body tabOK Try.func44 rfl Try.ntmps44 rfl rfl rfl ?_
  unfold i_StackDepths at hF
  refine at_seq ?_
  refine at_region ?_
  refine sxk 3 tabOK rfl ?_
  refine aops_nil ?_
  refine at_seq ?_
  refine at_seq ?_
  refine at_region ?_
  refine sxk 3 tabOK rfl ?_
  refine ops_if (g := 9) hF rfl (fun hc hF => ?_) (fun hc hF => ?_)
  · refine sxk 6 tabOK rfl ?_
    refine aops_nil ?_
    refine at_true rfl ?_
    refine at_seq ?_
    refine at_keep [] rfl ?_
    refine at_region ?_
    refine sxk 2 tabOK rfl ?_
    refine aops_nil ?_
    refine at_ret ?_
    refine tk_r ?_
    obtain rfl := Option.some.inj hF
    refine ret_le rfl ?_
    exact (vle_tup (.cons (vle_nil _ _) (.cons (vle_refl _) .nil)))
  · refine sxk 3 tabOK rfl ?_
    refine sv rfl (oc_len cCode tabOK rfl rfl rfl) rfl ?_
    refine sxk 2 tabOK rfl ?_
    refine aops_nil ?_
    refine ct_if hF rfl (fun hc hF => ?_) (fun hc hF => ?_)
    · refine at_seq ?_
      refine at_keep [] rfl ?_
      refine at_region ?_
      refine sxk 2 tabOK rfl ?_
      refine aops_nil ?_
      refine at_ret ?_
      refine tk_r ?_
      obtain rfl := Option.some.inj hF
      refine ret_le rfl ?_
      exact (vle_tup (.cons (vle_nil _ _) (.cons (vle_refl _) .nil)))
    · refine at_skip ?_
      refine at_seq ?_
      refine at_seq ?_
      refine at_keep [1, 2] rfl ?_
      refine at_region ?_
      refine sxk 1 tabOK rfl ?_
      refine aops_nil ?_
      refine at_block ?_
      refine cl_loop (σ := Int) (fun k3 => ⟨[(1, .int .i64 code), (2, .ptr 3 1 0 0), (6, .int .i64 k3)], [(3, ⟨2, [cImage.row 0 m]⟩)], 4, 30, []⟩) (i_StackDepths_L1 m code) LF 0 hF (le_down (down_all (ee_cons rfl rfl rfl (ee_cons rfl rfl (Nat.le_of_ble_eq_true rfl) (ee_cons rfl rfl rfl ee_nil))) (he_cons rfl rfl rfl (row_one (cImage.row_ok _ rfl)) he_nil) rfl rfl rfl rfl)) ?_
      rintro lk_ k3 hF
      refine at_eq (s' := ⟨[(1, .int .i64 code), (2, .ptr 3 1 0 0), (6, .int .i64 k3)], [(3, ⟨2, [cImage.row 0 m]⟩)], 4, 30, []⟩) rfl ?_
      replace hF : i_StackDepths_L1b m code (itr (i_StackDepths_L1 m code) lk_) k3 = some q := hF
      unfold i_StackDepths_L1b at hF
      generalize itr (i_StackDepths_L1 m code) lk_ = go4 at hF ⊢
      refine at_seq ?_
      refine at_seq ?_
      refine at_region ?_
      refine sxk 3 tabOK rfl ?_
      refine aops_nil ?_
      refine ct_if hF rfl (fun hc hF => ?_) (fun hc hF => ?_)
      · refine at_skip ?_
        refine at_seq ?_
        refine at_block ?_
        refine at_seq ?_
        refine at_region ?_
        refine sxk 2 tabOK rfl ?_
        obtain ⟨x5, hx5, hF⟩ := bnd_some hF
        refine call_eq (i_codeOk_ok m k3 x5 hx5) rfl ((rlL_cons (cImage.rl_agg (l := 0) (l' := 0) _ m rfl) (rlL_cons (rfl) rlL_nil))) rfl rfl ?_
        refine sxk 1 tabOK rfl ?_
        refine aops_nil ?_
        refine ct_bn hF rfl (fun hc hF => ?_) (fun hc hF => ?_)
        · refine at_seq ?_
          refine at_keep [] rfl ?_
          refine at_region ?_
          refine sxk 2 tabOK rfl ?_
          refine aops_nil ?_
          refine at_ret ?_
          refine bk_r ?_
          refine tk_r ?_
          refine ll_r ?_
          refine bk_r ?_
          refine tk_r ?_
          obtain rfl := Option.some.inj hF
          refine ret_le rfl ?_
          exact (vle_tup (.cons (vle_nil _ _) (.cons (vle_refl _) .nil)))
        · refine at_skip ?_
          refine bk_n ?_
          refine at_keep [1, 2, 6] rfl ?_
          refine at_region ?_
          refine sxk 1 tabOK rfl ?_
          obtain ⟨hb, hF⟩ := chk_some hF
          refine s_add tabOK rfl rfl rfl hb rfl ?_
          refine sxk 1 tabOK rfl ?_
          refine aops_nil ?_
          exact arr_loop ⟨(k3 + 1), hF, (le_down (down_all (ee_cons rfl rfl rfl (ee_cons rfl rfl (Nat.le_of_ble_eq_true rfl) (ee_cons rfl rfl rfl ee_nil))) (he_cons rfl rfl rfl (row_one (cImage.row_ok _ rfl)) he_nil) rfl rfl rfl rfl))⟩
      · refine at_exit ?_
        refine tk_x ?_
        refine ll_x ?_
        refine bk_hit ?_
        refine at_seq ?_
        refine at_region ?_
        refine sxk 2 tabOK rfl ?_
        obtain ⟨x5, hx5, hF⟩ := bnd_some hF
        refine call_eq (i_depthsOf_ok m code x5 hx5) rfl ((rlL_cons (cImage.rl_agg (l := 0) (l' := 0) _ m rfl) (rlL_cons (rfl) rlL_nil))) (rl_tupL (rlL_cons (cInt.rl_psl (l := 1) (l' := 1) _ x5.1 rfl) (rlL_cons (rfl) rlL_nil))) rfl ?_
        refine sxk 4 tabOK rfl ?_
        refine aops_nil ?_
        refine at_ret ?_
        obtain rfl := Option.some.inj hF
        refine ret_le rfl ?_
        exact (vle_tup (.cons (vle_refl _) (.cons (vle_refl _) .nil)))

theorem i_IsImage_ok (m : PImage) (captures : Int) (q : Bool) (hF : i_IsImage m captures = some q) : FC Try.prog 42 [.agg (cImage.row 0 m), .int .i64 captures] [] 3 (fun x _ => x = .bool q) := by
  refine FC.of_le ?_
  refine fc_body tabOK Try.func42 rfl Try.ntmps42 rfl rfl rfl ?_
  unfold i_IsImage at hF
  refine at_seq ?_
  refine at_region ?_
  refine sxk 2 tabOK rfl ?_
  refine aops_nil ?_
  refine at_seq ?_
  refine at_region ?_
  refine sxk 2 tabOK rfl ?_
  refine sv rfl (oc_len cCode tabOK rfl rfl rfl) rfl ?_
  refine sxk 1 tabOK rfl ?_
  refine aops_nil ?_
  refine at_seq ?_
  refine at_seq ?_
  refine at_region ?_
  refine sxk 3 tabOK rfl ?_
  refine ops_if (g := 21) hF rfl (fun hc hF => ?_) (fun hc hF => ?_)
  · refine sxk 31 tabOK rfl ?_
    refine aops_nil ?_
    refine at_true rfl ?_
    refine at_seq ?_
    refine at_keep [] rfl ?_
    refine at_region ?_
    refine sxk 1 tabOK rfl ?_
    refine aops_nil ?_
    refine at_ret ?_
    refine tk_r ?_
    obtain rfl := Option.some.inj hF
    refine ret_le rfl ?_
    exact (vle_refl _)
  · refine sxk 4 tabOK rfl ?_
    refine ops_if (g := 25) hF rfl (fun hc hF => ?_) (fun hc hF => ?_)
    · refine sxk 27 tabOK rfl ?_
      refine aops_nil ?_
      refine at_true rfl ?_
      refine at_seq ?_
      refine at_keep [] rfl ?_
      refine at_region ?_
      refine sxk 1 tabOK rfl ?_
      refine aops_nil ?_
      refine at_ret ?_
      refine tk_r ?_
      obtain rfl := Option.some.inj hF
      refine ret_le rfl ?_
      exact (vle_refl _)
    · refine sxk 3 tabOK rfl ?_
      obtain ⟨hb, hF⟩ := chk_some hF
      refine s_sub tabOK rfl rfl rfl hb rfl ?_
      refine sxk 3 tabOK rfl ?_
      refine ops_ifn (g := 32) hF rfl (fun hc hF => ?_) (fun hc hF => ?_)
      · refine sxk 20 tabOK rfl ?_
        refine aops_nil ?_
        refine at_true rfl ?_
        refine at_seq ?_
        refine at_keep [] rfl ?_
        refine at_region ?_
        refine sxk 1 tabOK rfl ?_
        refine aops_nil ?_
        refine at_ret ?_
        refine tk_r ?_
        obtain rfl := Option.some.inj hF
        refine ret_le rfl ?_
        exact (vle_refl _)
      · refine sxk 3 tabOK rfl ?_
        obtain ⟨hb, hF⟩ := chk_some hF
        refine s_sub tabOK rfl rfl rfl hb rfl ?_
        obtain ⟨x3, hn_x3, hF⟩ := bnd_some hF
        refine sv rfl (oc_addr cCode hn_x3 tabOK rfl rfl rfl rfl) rfl ?_
        refine sxk 5 tabOK rfl ?_
        refine ops_ifn (g := 42) hF rfl (fun hc hF => ?_) (fun hc hF => ?_)
        · refine sxk 10 tabOK rfl ?_
          refine aops_nil ?_
          refine at_true rfl ?_
          refine at_seq ?_
          refine at_keep [] rfl ?_
          refine at_region ?_
          refine sxk 1 tabOK rfl ?_
          refine aops_nil ?_
          refine at_ret ?_
          refine tk_r ?_
          obtain rfl := Option.some.inj hF
          refine ret_le rfl ?_
          exact (vle_refl _)
        · refine sxk 3 tabOK rfl ?_
          obtain ⟨hb, hF⟩ := chk_some hF
          refine s_sub tabOK rfl rfl rfl hb rfl ?_
          obtain ⟨x4, hn_x4, hF⟩ := bnd_some hF
          refine sv rfl (oc_addr cCode hn_x4 tabOK rfl rfl rfl rfl) rfl ?_
          refine sxk 5 tabOK rfl ?_
          refine aops_nil ?_
          refine ct_ifn hF rfl (fun hc hF => ?_) (fun hc hF => ?_)
          · refine at_seq ?_
            refine at_keep [] rfl ?_
            refine at_region ?_
            refine sxk 1 tabOK rfl ?_
            refine aops_nil ?_
            refine at_ret ?_
            refine tk_r ?_
            obtain rfl := Option.some.inj hF
            refine ret_le rfl ?_
            exact (vle_refl _)
          · refine at_skip ?_
            refine at_seq ?_
            refine at_keep [2, 5] rfl ?_
            refine at_region ?_
            refine sxk 1 tabOK rfl ?_
            refine aops_nil ?_
            refine at_seq ?_
            refine at_region ?_
            refine sxk 1 tabOK rfl ?_
            obtain ⟨hb, hF⟩ := chk_some hF
            refine sc_make cInt (l := 0) (v := (0 : Int)) hb tabOK rfl rfl rfl rfl (vleL_refl _) rfl rfl rfl ?_
            refine sxk 1 tabOK rfl ?_
            refine aops_nil ?_
            refine at_seq ?_
            refine at_seq ?_
            refine at_region ?_
            refine sxk 2 tabOK rfl ?_
            refine sv rfl (oc_len cCode tabOK rfl rfl rfl) rfl ?_
            refine sxk 1 tabOK rfl ?_
            refine aops_nil ?_
            refine at_block ?_
            refine cl_loop (σ := Int × Int × List Int) (fun v => match v with | (total5, x6, named7) => ⟨[(2, .ptr 3 1 0 0), (5, .int .i64 (m.codes.length : Int)), (6, .int .i64 total5), (7, .hsl 4 0 named7.length), (56, .psl 0 4 (m.codes.map (cCode.enc 0))), (57, .int .i64 (m.codes.length : Int)), (58, .int .i64 x6)], [(3, ⟨2, [cImage.row 0 m]⟩), (4, ⟨1, named7.map (cInt.enc 0)⟩)], 5, 113, []⟩) (i_IsImage_L1 m) LF (0, 0, (List.replicate (m.codes.length : Int).toNat (0 : Int))) hF (le_down (down_all (ee_cons rfl rfl (Nat.le_of_ble_eq_true rfl) (ee_cons rfl rfl rfl (ee_cons rfl rfl rfl (ee_cons rfl rfl (Nat.le_of_ble_eq_true rfl) (ee_cons rfl rfl (cCode.ok_psl _ rfl) (ee_cons rfl rfl rfl (ee_cons rfl rfl rfl ee_nil))))))) (he_cons rfl rfl rfl (row_one (cImage.row_ok _ rfl)) (he_cons rfl rfl rfl (cInt.rows_ok _ rfl) he_nil)) rfl rfl rfl rfl)) ?_
            rintro lk_ ⟨total5, x6, named7⟩ hF
            refine at_eq (s' := ⟨[(2, .ptr 3 1 0 0), (5, .int .i64 (m.codes.length : Int)), (6, .int .i64 total5), (7, .hsl 4 0 named7.length), (56, .psl 0 4 (m.codes.map (cCode.enc 0))), (57, .int .i64 (m.codes.length : Int)), (58, .int .i64 x6)], [(3, ⟨2, [cImage.row 0 m]⟩), (4, ⟨1, named7.map (cInt.enc 0)⟩)], 5, 113, []⟩) rfl ?_
            replace hF : i_IsImage_L1b m (itr (i_IsImage_L1 m) lk_) total5 x6 named7 = some q := hF
            unfold i_IsImage_L1b at hF
            generalize itr (i_IsImage_L1 m) lk_ = go8 at hF ⊢
            refine at_seq ?_
            refine at_region ?_
            refine sxk 1 tabOK rfl ?_
            refine aops_nil ?_
            refine at_seq ?_
            refine ct_if hF rfl (fun hc hF => ?_) (fun hc hF => ?_)
            · refine at_skip ?_
              refine at_seq ?_
              refine at_block ?_
              refine at_seq ?_
              refine at_region ?_
              refine sxk 1 tabOK rfl ?_
              obtain ⟨x9, hn_x9, hF⟩ := bnd_some hF
              refine sv rfl (oc_addr cCode hn_x9 tabOK rfl rfl rfl rfl) rfl ?_
              refine sxk 4 tabOK rfl ?_
              refine aops_nil ?_
              refine at_seq ?_
              refine at_seq ?_
              refine at_region ?_
              refine sxk 2 tabOK rfl ?_
              obtain ⟨x10, hx10, hF⟩ := bnd_some hF
              refine call_eq (i_codeOk_ok m x6 x10 hx10) rfl ((rlL_cons (cImage.rl_agg (l := 0) (l' := 0) _ m rfl) (rlL_cons (rfl) rlL_nil))) rfl rfl ?_
              refine sxk 1 tabOK rfl ?_
              refine aops_nil ?_
              refine ct_bn hF rfl (fun hc hF => ?_) (fun hc hF => ?_)
              · refine at_seq ?_
                refine at_keep [] rfl ?_
                refine at_region ?_
                refine sxk 1 tabOK rfl ?_
                refine aops_nil ?_
                refine at_ret ?_
                refine tk_r ?_
                refine bk_r ?_
                refine tk_r ?_
                refine ll_r ?_
                refine bk_r ?_
                refine tk_r ?_
                obtain rfl := Option.some.inj hF
                refine ret_le rfl ?_
                exact (vle_refl _)
              · refine at_skip ?_
                refine at_seq ?_
                refine at_seq ?_
                refine at_keep [2, 5, 6, 7, 8, 9, 56, 57, 58] rfl ?_
                refine at_region ?_
                refine sxk 2 tabOK rfl ?_
                obtain ⟨x11, hx11, hF⟩ := bnd_some hF
                refine call_eq (i_depthsOf_ok m x6 x11 hx11) rfl ((rlL_cons (cImage.rl_agg (l := 0) (l' := 0) _ m rfl) (rlL_cons (rfl) rlL_nil))) (rl_tupL (rlL_cons (cInt.rl_psl (l := 1) (l' := 1) _ x11.1 rfl) (rlL_cons (rfl) rlL_nil))) rfl ?_
                refine sxk 5 tabOK rfl ?_
                refine aops_nil ?_
                refine at_seq ?_
                refine at_keep [2, 5, 6, 7, 9, 11, 56, 57, 58] rfl ?_
                refine at_region ?_
                refine sxk 2 tabOK rfl ?_
                refine aops_nil ?_
                refine ct_bn hF rfl (fun hc hF => ?_) (fun hc hF => ?_)
                · refine at_seq ?_
                  refine at_keep [] rfl ?_
                  refine at_region ?_
                  refine sxk 1 tabOK rfl ?_
                  refine aops_nil ?_
                  refine at_ret ?_
                  refine tk_r ?_
                  refine bk_r ?_
                  refine tk_r ?_
                  refine ll_r ?_
                  refine bk_r ?_
                  refine tk_r ?_
                  obtain rfl := Option.some.inj hF
                  refine ret_le rfl ?_
                  exact (vle_refl _)
                · refine at_skip ?_
                  refine at_seq ?_
                  refine at_region ?_
                  refine sxk 3 tabOK rfl ?_
                  refine sv rfl (oc_len cInstr tabOK rfl rfl rfl) rfl ?_
                  obtain ⟨hb, hF⟩ := chk_some hF
                  refine s_add tabOK rfl rfl rfl hb rfl ?_
                  refine sxk 1 tabOK rfl ?_
                  refine aops_nil ?_
                  refine at_seq ?_
                  refine at_keep [2, 5, 6, 7, 9, 56, 57, 58] rfl ?_
                  refine at_region ?_
                  refine sxk 2 tabOK rfl ?_
                  refine sv rfl (oc_len cInstr tabOK rfl rfl rfl) rfl ?_
                  refine sxk 1 tabOK rfl ?_
                  refine aops_nil ?_
                  refine at_block ?_
                  refine cl_loop (σ := Int × List Int) (fun v => match v with | (x12, named13) => ⟨[(2, .ptr 3 1 0 0), (5, .int .i64 (m.codes.length : Int)), (6, .int .i64 (total5 + (x9.instrs.length : Int))), (7, .hsl 4 0 named13.length), (56, .psl 0 4 (m.codes.map (cCode.enc 0))), (57, .int .i64 (m.codes.length : Int)), (58, .int .i64 x6), (81, .psl 0 6 (x9.instrs.map (cInstr.enc 0))), (82, .int .i64 (x9.instrs.length : Int)), (83, .int .i64 x12)], [(3, ⟨2, [cImage.row 0 m]⟩), (4, ⟨1, named13.map (cInt.enc 0)⟩)], 6, 113, []⟩) (i_IsImage_L2 total5 x6 go8 x9) LF (0, named7) hF (le_down (down_all (ee_cons rfl rfl (Nat.le_of_ble_eq_true rfl) (ee_cons rfl rfl rfl (ee_cons rfl rfl rfl (ee_cons rfl rfl (Nat.le_of_ble_eq_true rfl) (ee_cons rfl rfl (cCode.ok_psl _ rfl) (ee_cons rfl rfl rfl (ee_cons rfl rfl rfl (ee_cons rfl rfl (cInstr.ok_psl _ rfl) (ee_cons rfl rfl rfl (ee_cons rfl rfl rfl ee_nil)))))))))) (he_cons rfl rfl rfl (row_one (cImage.row_ok _ rfl)) (he_cons rfl rfl rfl (cInt.rows_ok _ rfl) he_nil)) rfl rfl rfl rfl)) ?_
                  rintro lk_ ⟨x12, named13⟩ hF
                  refine at_eq (s' := ⟨[(2, .ptr 3 1 0 0), (5, .int .i64 (m.codes.length : Int)), (6, .int .i64 (total5 + (x9.instrs.length : Int))), (7, .hsl 4 0 named13.length), (56, .psl 0 4 (m.codes.map (cCode.enc 0))), (57, .int .i64 (m.codes.length : Int)), (58, .int .i64 x6), (81, .psl 0 6 (x9.instrs.map (cInstr.enc 0))), (82, .int .i64 (x9.instrs.length : Int)), (83, .int .i64 x12)], [(3, ⟨2, [cImage.row 0 m]⟩), (4, ⟨1, named13.map (cInt.enc 0)⟩)], 6, 113, []⟩) rfl ?_
                  replace hF : i_IsImage_L2b total5 x6 go8 x9 (itr (i_IsImage_L2 total5 x6 go8 x9) lk_) x12 named13 = some q := hF
                  unfold i_IsImage_L2b at hF
                  generalize itr (i_IsImage_L2 total5 x6 go8 x9) lk_ = go14 at hF ⊢
                  refine at_seq ?_
                  refine at_region ?_
                  refine sxk 1 tabOK rfl ?_
                  refine aops_nil ?_
                  refine at_seq ?_
                  refine ct_if hF rfl (fun hc hF => ?_) (fun hc hF => ?_)
                  · refine at_skip ?_
                    refine at_seq ?_
                    refine cl_midn (σ := List Int) (fun named15 => ⟨[(2, .ptr 3 1 0 0), (5, .int .i64 (m.codes.length : Int)), (6, .int .i64 (total5 + (x9.instrs.length : Int))), (7, .hsl 4 0 named15.length), (56, .psl 0 4 (m.codes.map (cCode.enc 0))), (57, .int .i64 (m.codes.length : Int)), (58, .int .i64 x6), (81, .psl 0 6 (x9.instrs.map (cInstr.enc 0))), (82, .int .i64 (x9.instrs.length : Int)), (83, .int .i64 x12)], [(3, ⟨2, [cImage.row 0 m]⟩), (4, ⟨1, named15.map (cInt.enc 0)⟩)], 5, 113, []⟩) (fun named15 => i_IsImage_J3 x12 go14 named15 = some q) ?_ ?_
                    · refine at_block ?_
                      refine at_seq ?_
                      refine at_region ?_
                      obtain ⟨x15, hn_x15, hF⟩ := bnd_some hF
                      refine sv rfl (oc_addr cInstr hn_x15 tabOK rfl rfl rfl rfl) rfl ?_
                      refine sxk 3 tabOK rfl ?_
                      refine aops_nil ?_
                      refine at_seq ?_
                      refine at_region ?_
                      refine sxk 2 tabOK rfl ?_
                      obtain ⟨x16, hx16, hF⟩ := bnd_some hF
                      refine call_eq (i_namesCode_ok x15.op x16 hx16) rfl ((rlL_cons (rfl) rlL_nil)) rfl rfl ?_
                      refine aops_nil ?_
                      refine ct_b hF rfl (fun hc hF => ?_) (fun hc hF => ?_)
                      · refine at_region ?_
                        refine sxk 3 tabOK rfl ?_
                        obtain ⟨x17, hn_x17, hF⟩ := bnd_some hF
                        refine sv rfl (oc_haddr cInt hn_x17 tabOK rfl rfl rfl rfl) rfl ?_
                        refine sv rfl (oc_load cInt hn_x17 tabOK rfl rfl rfl rfl) rfl ?_
                        obtain ⟨hb, hF⟩ := chk_some hF
                        refine s_add tabOK rfl rfl rfl hb rfl ?_
                        obtain ⟨x18, hn_x18, hF⟩ := bnd_some hF
                        refine sv rfl (oc_haddr cInt hn_x18 tabOK rfl rfl rfl rfl) rfl ?_
                        refine sc_store cInt (v' := (x17 + 1)) hn_x18 tabOK rfl rfl rfl rfl rfl rfl rfl rfl ?_
                        refine ops_le (le_slot (y := .hsl 4 0 (named13.set x15.a.toNat (x17 + 1)).length) 7 rfl (vle_eq (congrArg (V.hsl 4 0) (by simp))) rfl) ?_
                        refine aops_nil ?_
                        refine bk_n ?_
                        exact arr_cut ⟨(named13.set x15.a.toNat (x17 + 1)), hF, (le_down (down_all (ee_cons rfl rfl (Nat.le_of_ble_eq_true rfl) (ee_cons rfl rfl rfl (ee_cons rfl rfl rfl (ee_cons rfl rfl (Nat.le_of_ble_eq_true rfl) (ee_cons rfl rfl (cCode.ok_psl _ rfl) (ee_cons rfl rfl rfl (ee_cons rfl rfl rfl (ee_cons rfl rfl (cInstr.ok_psl _ rfl) (ee_cons rfl rfl rfl (ee_cons rfl rfl rfl ee_nil)))))))))) (he_cons rfl rfl rfl (row_one (cImage.row_ok _ rfl)) (he_cons rfl rfl rfl (cInt.rows_ok _ rfl) he_nil)) rfl rfl rfl rfl))⟩
                      · refine at_skip ?_
                        refine bk_n ?_
                        exact arr_cut ⟨named13, hF, (le_down (down_all (ee_cons rfl rfl (Nat.le_of_ble_eq_true rfl) (ee_cons rfl rfl rfl (ee_cons rfl rfl rfl (ee_cons rfl rfl (Nat.le_of_ble_eq_true rfl) (ee_cons rfl rfl (cCode.ok_psl _ rfl) (ee_cons rfl rfl rfl (ee_cons rfl rfl rfl (ee_cons rfl rfl (cInstr.ok_psl _ rfl) (ee_cons rfl rfl rfl (ee_cons rfl rfl rfl ee_nil)))))))))) (he_cons rfl rfl rfl (row_one (cImage.row_ok _ rfl)) (he_cons rfl rfl rfl (cInt.rows_ok _ rfl) he_nil)) rfl rfl rfl rfl))⟩
                    · rintro named15 hF
                      refine at_eq (s' := ⟨[(2, .ptr 3 1 0 0), (5, .int .i64 (m.codes.length : Int)), (6, .int .i64 (total5 + (x9.instrs.length : Int))), (7, .hsl 4 0 named15.length), (56, .psl 0 4 (m.codes.map (cCode.enc 0))), (57, .int .i64 (m.codes.length : Int)), (58, .int .i64 x6), (81, .psl 0 6 (x9.instrs.map (cInstr.enc 0))), (82, .int .i64 (x9.instrs.length : Int)), (83, .int .i64 x12)], [(3, ⟨2, [cImage.row 0 m]⟩), (4, ⟨1, named15.map (cInt.enc 0)⟩)], 5, 113, []⟩) rfl ?_
                      replace hF : i_IsImage_J3 x12 go14 named15 = some q := hF
                      unfold i_IsImage_J3 at hF
                      refine at_region ?_
                      obtain ⟨hb, hF⟩ := chk_some hF
                      refine s_add tabOK rfl rfl rfl hb rfl ?_
                      refine sxk 1 tabOK rfl ?_
                      refine aops_nil ?_
                      exact arr_loop ⟨((x12 + 1), named15), hF, ((le_bump 6 rfl rfl).trans (le_down (down_all (ee_cons rfl rfl (Nat.le_of_ble_eq_true rfl) (ee_cons rfl rfl rfl (ee_cons rfl rfl rfl (ee_cons rfl rfl (Nat.le_of_ble_eq_true rfl) (ee_cons rfl rfl (cCode.ok_psl _ rfl) (ee_cons rfl rfl rfl (ee_cons rfl rfl rfl (ee_cons rfl rfl (cInstr.ok_psl _ rfl) (ee_cons rfl rfl rfl (ee_cons rfl rfl rfl ee_nil)))))))))) (he_cons rfl rfl rfl (row_one (cImage.row_ok _ rfl)) (he_cons rfl rfl rfl (cInt.rows_ok _ rfl) he_nil)) rfl rfl rfl rfl)))⟩
                  · refine at_exit ?_
                    refine tk_x ?_
                    refine ll_x ?_
                    refine bk_hit ?_
                    refine bk_n ?_
                    refine at_region ?_
                    obtain ⟨hb, hF⟩ := chk_some hF
                    refine s_add tabOK rfl rfl rfl hb rfl ?_
                    refine sxk 1 tabOK rfl ?_
                    refine aops_nil ?_
                    exact arr_loop ⟨((total5 + (x9.instrs.length : Int)), (x6 + 1), named13), hF, (le_down (down_all (ee_cons rfl rfl (Nat.le_of_ble_eq_true rfl) (ee_cons rfl rfl rfl (ee_cons rfl rfl rfl (ee_cons rfl rfl (Nat.le_of_ble_eq_true rfl) (ee_cons rfl rfl (cCode.ok_psl _ rfl) (ee_cons rfl rfl rfl (ee_cons rfl rfl rfl ee_nil))))))) (he_cons rfl rfl rfl (row_one (cImage.row_ok _ rfl)) (he_cons rfl rfl rfl (cInt.rows_ok _ rfl) he_nil)) rfl rfl rfl rfl))⟩
            · refine at_exit ?_
              refine tk_x ?_
              refine ll_x ?_
              refine bk_hit ?_
              refine at_seq ?_
              refine at_seq ?_
              refine at_region ?_
              refine sxk 2 tabOK rfl ?_
              obtain ⟨hb, hF⟩ := chk_some hF
              refine s_sub tabOK rfl rfl rfl hb rfl ?_
              obtain ⟨hb, hF⟩ := chk_some hF
              refine ops_le (le_freeze 99 rfl rfl (by simp) rfl) ?_
              refine sv rfl (oc_psub_h cInt hb tabOK rfl rfl rfl rfl) rfl ?_
              refine sv rfl (oc_len cInt tabOK rfl rfl rfl) rfl ?_
              refine sxk 1 tabOK rfl ?_
              refine aops_nil ?_
              refine at_block ?_
              refine cl_loop (σ := Int) (fun x9 => ⟨[(6, .int .i64 total5), (102, .psl 1 1 ((named7.take ((m.codes.length : Int) - 1).toNat).map (cInt.enc 1))), (103, .int .i64 ((named7.take ((m.codes.length : Int) - 1).toNat).length : Int)), (104, .int .i64 x9)], [], 5, 113, []⟩) (i_IsImage_L4 m total5 named7) LF 0 hF (le_down (down_all (ee_cons rfl rfl rfl (ee_cons rfl rfl (cInt.ok_psl _ rfl) (ee_cons rfl rfl rfl (ee_cons rfl rfl rfl ee_nil)))) he_nil rfl rfl rfl rfl)) ?_
              rintro lk_ x9 hF
              refine at_eq (s' := ⟨[(6, .int .i64 total5), (102, .psl 1 1 ((named7.take ((m.codes.length : Int) - 1).toNat).map (cInt.enc 1))), (103, .int .i64 ((named7.take ((m.codes.length : Int) - 1).toNat).length : Int)), (104, .int .i64 x9)], [], 5, 113, []⟩) rfl ?_
              replace hF : i_IsImage_L4b m total5 named7 (itr (i_IsImage_L4 m total5 named7) lk_) x9 = some q := hF
              unfold i_IsImage_L4b at hF
              generalize itr (i_IsImage_L4 m total5 named7) lk_ = go10 at hF ⊢
              refine at_seq ?_
              refine at_region ?_
              refine sxk 1 tabOK rfl ?_
              refine aops_nil ?_
              refine at_seq ?_
              refine ct_if hF rfl (fun hc hF => ?_) (fun hc hF => ?_)
              · refine at_skip ?_
                refine at_seq ?_
                refine at_block ?_
                refine at_seq ?_
                refine at_region ?_
                obtain ⟨x11, hn_x11, hF⟩ := bnd_some hF
                refine sv rfl (oc_addr cInt hn_x11 tabOK rfl rfl rfl rfl) rfl ?_
                refine sxk 2 tabOK rfl ?_
                refine aops_nil ?_
                refine at_seq ?_
                refine at_region ?_
                refine sxk 2 tabOK rfl ?_
                refine aops_nil ?_
                refine ct_ifn hF rfl (fun hc hF => ?_) (fun hc hF => ?_)
                · refine at_seq ?_
                  refine at_keep [] rfl ?_
                  refine at_region ?_
                  refine sxk 1 tabOK rfl ?_
                  refine aops_nil ?_
                  refine at_ret ?_
                  refine bk_r ?_
                  refine tk_r ?_
                  refine ll_r ?_
                  refine bk_r ?_
                  refine tk_r ?_
                  obtain rfl := Option.some.inj hF
                  refine ret_le rfl ?_
                  exact (vle_refl _)
                · refine at_skip ?_
                  refine bk_n ?_
                  refine at_region ?_
                  obtain ⟨hb, hF⟩ := chk_some hF
                  refine s_add tabOK rfl rfl rfl hb rfl ?_
                  refine sxk 1 tabOK rfl ?_
                  refine aops_nil ?_
                  exact arr_loop ⟨(x9 + 1), hF, (le_down (down_all (ee_cons rfl rfl rfl (ee_cons rfl rfl (cInt.ok_psl _ rfl) (ee_cons rfl rfl rfl (ee_cons rfl rfl rfl ee_nil)))) he_nil rfl rfl rfl rfl))⟩
              · refine at_exit ?_
                refine tk_x ?_
                refine ll_x ?_
                refine bk_hit ?_
                refine at_seq ?_
                refine at_region ?_
                refine sxk 3 tabOK rfl ?_
                refine aops_nil ?_
                refine at_ret ?_
                obtain rfl := Option.some.inj hF
                refine ret_le rfl ?_
                exact (vle_refl _)

theorem i_EqualImages_ok (a : PImage) (b : PImage) (q : Bool) (hF : i_EqualImages a b = some q) : FC Try.prog 26 [.agg (cImage.row 0 a), .agg (cImage.row 0 b)] [] 3 (fun x _ => x = .bool q) := by
  refine FC.of_le ?_
  refine fc_body tabOK Try.func26 rfl Try.ntmps26 rfl rfl rfl ?_
  unfold i_EqualImages at hF
  refine at_seq ?_
  refine at_region ?_
  refine sxk 3 tabOK rfl ?_
  refine aops_nil ?_
  refine at_seq ?_
  refine at_seq ?_
  refine at_region ?_
  refine sxk 6 tabOK rfl ?_
  refine ops_ifn (g := 14) hF rfl (fun hc hF => ?_) (fun hc hF => ?_)
  · refine sxk 8 tabOK rfl ?_
    refine aops_nil ?_
    refine at_true rfl ?_
    refine at_seq ?_
    refine at_keep [] rfl ?_
    refine at_region ?_
    refine sxk 1 tabOK rfl ?_
    refine aops_nil ?_
    refine at_ret ?_
    refine tk_r ?_
    obtain rfl := Option.some.inj hF
    refine ret_le rfl ?_
    exact (vle_refl _)
  · refine sxk 2 tabOK rfl ?_
    refine sv rfl (oc_len cCode tabOK rfl rfl rfl) rfl ?_
    refine sxk 2 tabOK rfl ?_
    refine sv rfl (oc_len cCode tabOK rfl rfl rfl) rfl ?_
    refine sxk 2 tabOK rfl ?_
    refine aops_nil ?_
    refine ct_ifn hF rfl (fun hc hF => ?_) (fun hc hF => ?_)
    · refine at_seq ?_
      refine at_keep [] rfl ?_
      refine at_region ?_
      refine sxk 1 tabOK rfl ?_
      refine aops_nil ?_
      refine at_ret ?_
      refine tk_r ?_
      obtain rfl := Option.some.inj hF
      refine ret_le rfl ?_
      exact (vle_refl _)
    · refine at_skip ?_
      refine at_seq ?_
      refine at_seq ?_
      refine at_keep [2, 3] rfl ?_
      refine at_region ?_
      refine sxk 2 tabOK rfl ?_
      refine sv rfl (oc_len cCode tabOK rfl rfl rfl) rfl ?_
      refine sxk 1 tabOK rfl ?_
      refine aops_nil ?_
      refine at_block ?_
      refine cl_loop (σ := Int) (fun x3 => ⟨[(2, .ptr 3 1 0 0), (3, .ptr 4 1 0 0), (25, .int .i64 (a.codes.length : Int)), (26, .int .i64 x3)], [(3, ⟨2, [cImage.row 0 a]⟩), (4, ⟨2, [cImage.row 0 b]⟩)], 5, 119, []⟩) (i_EqualImages_L1 a b) LF 0 hF (le_down (down_all (ee_cons rfl rfl (Nat.le_of_ble_eq_true rfl) (ee_cons rfl rfl (Nat.le_of_ble_eq_true rfl) (ee_cons rfl rfl rfl (ee_cons rfl rfl rfl ee_nil)))) (he_cons rfl rfl rfl (row_one (cImage.row_ok _ rfl)) (he_cons rfl rfl rfl (row_one (cImage.row_ok _ rfl)) he_nil)) rfl rfl rfl rfl)) ?_
      rintro lk_ x3 hF
      refine at_eq (s' := ⟨[(2, .ptr 3 1 0 0), (3, .ptr 4 1 0 0), (25, .int .i64 (a.codes.length : Int)), (26, .int .i64 x3)], [(3, ⟨2, [cImage.row 0 a]⟩), (4, ⟨2, [cImage.row 0 b]⟩)], 5, 119, []⟩) rfl ?_
      replace hF : i_EqualImages_L1b a b (itr (i_EqualImages_L1 a b) lk_) x3 = some q := hF
      unfold i_EqualImages_L1b at hF
      generalize itr (i_EqualImages_L1 a b) lk_ = go4 at hF ⊢
      refine at_seq ?_
      refine at_region ?_
      refine sxk 1 tabOK rfl ?_
      refine aops_nil ?_
      refine at_seq ?_
      refine ct_if hF rfl (fun hc hF => ?_) (fun hc hF => ?_)
      · refine at_skip ?_
        refine at_seq ?_
        refine at_block ?_
        refine at_seq ?_
        refine at_region ?_
        refine sxk 2 tabOK rfl ?_
        refine aops_nil ?_
        refine at_seq ?_
        refine at_drawnM (id := 6) 13 (by kernel_rfl) (by kernel_rfl) ?_
        refine nx tabOK rfl ?_
        refine nx tabOK rfl ?_
        refine nx tabOK rfl ?_
        obtain ⟨x5, hn_x5, hF⟩ := bnd_some hF
        refine nv rfl (oc_addr cCode hn_x5 tabOK rfl rfl rfl rfl) rfl ?_
        refine nx tabOK rfl ?_
        refine nx tabOK rfl ?_
        refine nx tabOK rfl ?_
        refine nx tabOK rfl ?_
        obtain ⟨x6, hn_x6, hF⟩ := bnd_some hF
        refine nv rfl (oc_addr cCode hn_x6 tabOK rfl rfl rfl rfl) rfl ?_
        refine nx tabOK rfl ?_
        refine n_alloc tabOK rfl rfl rfl rfl rfl ?_
        refine n_alloc tabOK rfl rfl rfl rfl rfl ?_
        refine n_sto (cs := [.int .i64 x5.params, .int .i64 x5.slots, .int .i64 x5.captures, .psl 0 6 (x5.instrs.map (cInstr.enc 0))]) tabOK rfl rfl rfl rfl rfl rfl rfl ?_
        refine dn_nil rfl ?_
        refine sxk 1 tabOK rfl ?_
        refine aops_nil ?_
        refine at_seq ?_
        refine at_seq ?_
        refine at_keep [2, 3, 6, 7, 25, 26] rfl ?_
        refine at_region ?_
        refine sxk 6 tabOK rfl ?_
        refine ops_ifn (g := 44) hF rfl (fun hc hF => ?_) (fun hc hF => ?_)
        · refine sxk 22 tabOK rfl ?_
          refine aops_nil ?_
          refine at_true rfl ?_
          refine at_seq ?_
          refine at_keep [] rfl ?_
          refine at_region ?_
          refine sxk 1 tabOK rfl ?_
          refine aops_nil ?_
          refine at_ret ?_
          refine tk_r ?_
          refine bk_r ?_
          refine tk_r ?_
          refine ll_r ?_
          refine bk_r ?_
          refine tk_r ?_
          obtain rfl := Option.some.inj hF
          refine ret_le rfl ?_
          exact (vle_refl _)
        · refine sxk 7 tabOK rfl ?_
          refine ops_ifn (g := 51) hF rfl (fun hc hF => ?_) (fun hc hF => ?_)
          · refine sxk 15 tabOK rfl ?_
            refine aops_nil ?_
            refine at_true rfl ?_
            refine at_seq ?_
            refine at_keep [] rfl ?_
            refine at_region ?_
            refine sxk 1 tabOK rfl ?_
            refine aops_nil ?_
            refine at_ret ?_
            refine tk_r ?_
            refine bk_r ?_
            refine tk_r ?_
            refine ll_r ?_
            refine bk_r ?_
            refine tk_r ?_
            obtain rfl := Option.some.inj hF
            refine ret_le rfl ?_
            exact (vle_refl _)
          · refine sxk 7 tabOK rfl ?_
            refine ops_ifn (g := 58) hF rfl (fun hc hF => ?_) (fun hc hF => ?_)
            · refine sxk 8 tabOK rfl ?_
              refine aops_nil ?_
              refine at_true rfl ?_
              refine at_seq ?_
              refine at_keep [] rfl ?_
              refine at_region ?_
              refine sxk 1 tabOK rfl ?_
              refine aops_nil ?_
              refine at_ret ?_
              refine tk_r ?_
              refine bk_r ?_
              refine tk_r ?_
              refine ll_r ?_
              refine bk_r ?_
              refine tk_r ?_
              obtain rfl := Option.some.inj hF
              refine ret_le rfl ?_
              exact (vle_refl _)
            · refine sxk 2 tabOK rfl ?_
              refine sv rfl (oc_len cInstr tabOK rfl rfl rfl) rfl ?_
              refine sxk 2 tabOK rfl ?_
              refine sv rfl (oc_len cInstr tabOK rfl rfl rfl) rfl ?_
              refine sxk 2 tabOK rfl ?_
              refine aops_nil ?_
              refine ct_ifn hF rfl (fun hc hF => ?_) (fun hc hF => ?_)
              · refine at_seq ?_
                refine at_keep [] rfl ?_
                refine at_region ?_
                refine sxk 1 tabOK rfl ?_
                refine aops_nil ?_
                refine at_ret ?_
                refine tk_r ?_
                refine bk_r ?_
                refine tk_r ?_
                refine ll_r ?_
                refine bk_r ?_
                refine tk_r ?_
                obtain rfl := Option.some.inj hF
                refine ret_le rfl ?_
                exact (vle_refl _)
              · refine at_skip ?_
                refine at_seq ?_
                refine at_keep [2, 3, 6, 7, 25, 26, 45, 46, 47, 48, 49, 52, 53, 54, 55, 56, 59, 60, 61, 62, 63, 64, 65] rfl ?_
                refine at_region ?_
                refine sxk 2 tabOK rfl ?_
                refine sv rfl (oc_len cInstr tabOK rfl rfl rfl) rfl ?_
                refine sxk 1 tabOK rfl ?_
                refine aops_nil ?_
                refine at_block ?_
                refine cl_loop (σ := Int) (fun x7 => ⟨[(2, .ptr 3 1 0 0), (3, .ptr 4 1 0 0), (6, .ptr 5 1 0 0), (7, .ptr 6 1 0 0), (25, .int .i64 (a.codes.length : Int)), (26, .int .i64 x3), (45, .ptr 5 1 0 1), (46, .int .i64 x5.slots), (47, .ptr 6 1 0 1), (48, .int .i64 x6.slots), (49, .bool (!decide (x5.slots = x6.slots))), (52, .ptr 5 1 0 2), (53, .int .i64 x5.captures), (54, .ptr 6 1 0 2), (55, .int .i64 x6.captures), (56, .bool (!decide (x5.captures = x6.captures))), (59, .ptr 5 1 0 3), (60, .psl 0 6 (x5.instrs.map (cInstr.enc 0))), (61, .int .i64 (x5.instrs.length : Int)), (62, .ptr 6 1 0 3), (63, .psl 0 6 (x6.instrs.map (cInstr.enc 0))), (64, .int .i64 (x6.instrs.length : Int)), (65, .bool (!decide ((x5.instrs.length : Int) = (x6.instrs.length : Int)))), (69, .int .i64 (x5.instrs.length : Int)), (70, .int .i64 x7)], [(3, ⟨2, [cImage.row 0 a]⟩), (4, ⟨2, [cImage.row 0 b]⟩), (5, ⟨4, [cCode.row 0 x5]⟩), (6, ⟨4, [cCode.row 0 x6]⟩)], 7, 119, []⟩) (i_EqualImages_L2 a x3 go4 x5 x6) LF 0 hF (le_down (down_all (ee_cons rfl rfl (Nat.le_of_ble_eq_true rfl) (ee_cons rfl rfl (Nat.le_of_ble_eq_true rfl) (ee_cons rfl rfl (Nat.le_of_ble_eq_true rfl) (ee_cons rfl rfl (Nat.le_of_ble_eq_true rfl) (ee_cons rfl rfl rfl (ee_cons rfl rfl rfl (ee_cons rfl rfl (Nat.le_of_ble_eq_true rfl) (ee_cons rfl rfl rfl (ee_cons rfl rfl (Nat.le_of_ble_eq_true rfl) (ee_cons rfl rfl rfl (ee_cons rfl rfl rfl (ee_cons rfl rfl (Nat.le_of_ble_eq_true rfl) (ee_cons rfl rfl rfl (ee_cons rfl rfl (Nat.le_of_ble_eq_true rfl) (ee_cons rfl rfl rfl (ee_cons rfl rfl rfl (ee_cons rfl rfl (Nat.le_of_ble_eq_true rfl) (ee_cons rfl rfl (cInstr.ok_psl _ rfl) (ee_cons rfl rfl rfl (ee_cons rfl rfl (Nat.le_of_ble_eq_true rfl) (ee_cons rfl rfl (cInstr.ok_psl _ rfl) (ee_cons rfl rfl rfl (ee_cons rfl rfl rfl (ee_cons rfl rfl rfl (ee_cons rfl rfl rfl ee_nil))))))))))))))))))))))))) (he_cons rfl rfl rfl (row_one (cImage.row_ok _ rfl)) (he_cons rfl rfl rfl (row_one (cImage.row_ok _ rfl)) (he_cons rfl rfl rfl (row_one (cCode.row_ok _ rfl)) (he_cons rfl rfl rfl (row_one (cCode.row_ok _ rfl)) he_nil)))) rfl rfl rfl rfl)) ?_
                rintro lk_ x7 hF
                refine at_eq (s' := ⟨[(2, .ptr 3 1 0 0), (3, .ptr 4 1 0 0), (6, .ptr 5 1 0 0), (7, .ptr 6 1 0 0), (25, .int .i64 (a.codes.length : Int)), (26, .int .i64 x3), (45, .ptr 5 1 0 1), (46, .int .i64 x5.slots), (47, .ptr 6 1 0 1), (48, .int .i64 x6.slots), (49, .bool (!decide (x5.slots = x6.slots))), (52, .ptr 5 1 0 2), (53, .int .i64 x5.captures), (54, .ptr 6 1 0 2), (55, .int .i64 x6.captures), (56, .bool (!decide (x5.captures = x6.captures))), (59, .ptr 5 1 0 3), (60, .psl 0 6 (x5.instrs.map (cInstr.enc 0))), (61, .int .i64 (x5.instrs.length : Int)), (62, .ptr 6 1 0 3), (63, .psl 0 6 (x6.instrs.map (cInstr.enc 0))), (64, .int .i64 (x6.instrs.length : Int)), (65, .bool (!decide ((x5.instrs.length : Int) = (x6.instrs.length : Int)))), (69, .int .i64 (x5.instrs.length : Int)), (70, .int .i64 x7)], [(3, ⟨2, [cImage.row 0 a]⟩), (4, ⟨2, [cImage.row 0 b]⟩), (5, ⟨4, [cCode.row 0 x5]⟩), (6, ⟨4, [cCode.row 0 x6]⟩)], 7, 119, []⟩) rfl ?_
                replace hF : i_EqualImages_L2b a x3 go4 x5 x6 (itr (i_EqualImages_L2 a x3 go4 x5 x6) lk_) x7 = some q := hF
                unfold i_EqualImages_L2b at hF
                generalize itr (i_EqualImages_L2 a x3 go4 x5 x6) lk_ = go8 at hF ⊢
                refine at_seq ?_
                refine at_region ?_
                refine sxk 1 tabOK rfl ?_
                refine aops_nil ?_
                refine at_seq ?_
                refine ct_if hF rfl (fun hc hF => ?_) (fun hc hF => ?_)
                · refine at_skip ?_
                  refine at_seq ?_
                  refine at_block ?_
                  refine at_seq ?_
                  refine at_region ?_
                  refine sxk 2 tabOK rfl ?_
                  refine aops_nil ?_
                  refine at_seq ?_
                  refine at_drawnM (id := 12) 41 (by kernel_rfl) (by kernel_rfl) ?_
                  refine nx tabOK rfl ?_
                  refine nx tabOK rfl ?_
                  refine nx tabOK rfl ?_
                  obtain ⟨x9, hn_x9, hF⟩ := bnd_some hF
                  refine nv rfl (oc_addr cInstr hn_x9 tabOK rfl rfl rfl rfl) rfl ?_
                  refine nx tabOK rfl ?_
                  refine nx tabOK rfl ?_
                  refine nx tabOK rfl ?_
                  refine nx tabOK rfl ?_
                  refine nx tabOK rfl ?_
                  obtain ⟨x10, hn_x10, hF⟩ := bnd_some hF
                  refine nv rfl (oc_addr cInstr hn_x10 tabOK rfl rfl rfl rfl) rfl ?_
                  refine nx tabOK rfl ?_
                  refine nx tabOK rfl ?_
                  refine nx tabOK rfl ?_
                  refine nx tabOK rfl ?_
                  refine dn_ifn (g := 86) hF rfl (fun hc hF => ?_) (fun hc hF => ?_)
                  · refine nx tabOK rfl ?_
                    refine nx tabOK rfl ?_
                    refine nx tabOK rfl ?_
                    refine nx tabOK rfl ?_
                    refine nx tabOK rfl ?_
                    refine nx tabOK rfl ?_
                    refine nx tabOK rfl ?_
                    refine nx tabOK rfl ?_
                    refine nx tabOK rfl ?_
                    refine nx tabOK rfl ?_
                    refine nx tabOK rfl ?_
                    refine nx tabOK rfl ?_
                    refine nx tabOK rfl ?_
                    refine nx tabOK rfl ?_
                    refine nx tabOK rfl ?_
                    refine nx tabOK rfl ?_
                    refine nx tabOK rfl ?_
                    refine nx tabOK rfl ?_
                    refine nx tabOK rfl ?_
                    refine nx tabOK rfl ?_
                    refine nx tabOK rfl ?_
                    refine nx tabOK rfl ?_
                    refine nx tabOK rfl ?_
                    refine nx tabOK rfl ?_
                    refine nx tabOK rfl ?_
                    refine nx tabOK rfl ?_
                    refine nx tabOK rfl ?_
                    refine dn_nil rfl ?_
                    refine sxk 3 tabOK rfl ?_
                    refine aops_nil ?_
                    refine at_true rfl ?_
                    refine at_seq ?_
                    refine at_keep [] rfl ?_
                    refine at_region ?_
                    refine sxk 1 tabOK rfl ?_
                    refine aops_nil ?_
                    refine at_ret ?_
                    refine bk_r ?_
                    refine tk_r ?_
                    refine ll_r ?_
                    refine bk_r ?_
                    refine bk_r ?_
                    refine tk_r ?_
                    refine ll_r ?_
                    refine bk_r ?_
                    refine tk_r ?_
                    obtain rfl := Option.some.inj hF
                    refine ret_le rfl ?_
                    exact (vle_refl _)
                  · refine nx tabOK rfl ?_
                    refine nx tabOK rfl ?_
                    refine nx tabOK rfl ?_
                    obtain ⟨x11, hn_x11, hF⟩ := bnd_some hF
                    refine nv rfl (oc_addr cInstr hn_x11 tabOK rfl rfl rfl rfl) rfl ?_
                    refine nx tabOK rfl ?_
                    refine nx tabOK rfl ?_
                    refine nx tabOK rfl ?_
                    refine nx tabOK rfl ?_
                    refine nx tabOK rfl ?_
                    obtain ⟨x12, hn_x12, hF⟩ := bnd_some hF
                    refine nv rfl (oc_addr cInstr hn_x12 tabOK rfl rfl rfl rfl) rfl ?_
                    refine nx tabOK rfl ?_
                    refine nx tabOK rfl ?_
                    refine nx tabOK rfl ?_
                    refine nx tabOK rfl ?_
                    refine nx tabOK rfl ?_
                    refine dn_ifn (g := 101) hF rfl (fun hc hF => ?_) (fun hc hF => ?_)
                    · refine nx tabOK rfl ?_
                      refine nx tabOK rfl ?_
                      refine nx tabOK rfl ?_
                      refine nx tabOK rfl ?_
                      refine nx tabOK rfl ?_
                      refine nx tabOK rfl ?_
                      refine nx tabOK rfl ?_
                      refine nx tabOK rfl ?_
                      refine nx tabOK rfl ?_
                      refine nx tabOK rfl ?_
                      refine nx tabOK rfl ?_
                      refine nx tabOK rfl ?_
                      refine dn_nil rfl ?_
                      refine sxk 3 tabOK rfl ?_
                      refine aops_nil ?_
                      refine at_true rfl ?_
                      refine at_seq ?_
                      refine at_keep [] rfl ?_
                      refine at_region ?_
                      refine sxk 1 tabOK rfl ?_
                      refine aops_nil ?_
                      refine at_ret ?_
                      refine bk_r ?_
                      refine tk_r ?_
                      refine ll_r ?_
                      refine bk_r ?_
                      refine bk_r ?_
                      refine tk_r ?_
                      refine ll_r ?_
                      refine bk_r ?_
                      refine tk_r ?_
                      obtain rfl := Option.some.inj hF
                      refine ret_le rfl ?_
                      exact (vle_refl _)
                    · refine nx tabOK rfl ?_
                      refine nx tabOK rfl ?_
                      refine nx tabOK rfl ?_
                      obtain ⟨x13, hn_x13, hF⟩ := bnd_some hF
                      refine nv rfl (oc_addr cInstr hn_x13 tabOK rfl rfl rfl rfl) rfl ?_
                      refine nx tabOK rfl ?_
                      refine nx tabOK rfl ?_
                      refine nx tabOK rfl ?_
                      refine nx tabOK rfl ?_
                      refine nx tabOK rfl ?_
                      obtain ⟨x14, hn_x14, hF⟩ := bnd_some hF
                      refine nv rfl (oc_addr cInstr hn_x14 tabOK rfl rfl rfl rfl) rfl ?_
                      refine nx tabOK rfl ?_
                      refine nx tabOK rfl ?_
                      refine dn_nil rfl ?_
                      obtain ⟨x15, hx15, hF⟩ := bnd_some hF
                      refine call_eq (i_EqualData_ok RF x13.d x14.d x15 hx15) rfl ((rlL_cons (cDat.rl_agg (l := 0) (l' := 0) _ x13.d rfl) (rlL_cons (cDat.rl_agg (l := 0) (l' := 0) _ x14.d rfl) rlL_nil))) rfl rfl ?_
                      refine sxk 2 tabOK rfl ?_
                      refine aops_nil ?_
                      refine ct_bn hF rfl (fun hc hF => ?_) (fun hc hF => ?_)
                      · refine at_seq ?_
                        refine at_keep [] rfl ?_
                        refine at_region ?_
                        refine sxk 1 tabOK rfl ?_
                        refine aops_nil ?_
                        refine at_ret ?_
                        refine bk_r ?_
                        refine tk_r ?_
                        refine ll_r ?_
                        refine bk_r ?_
                        refine bk_r ?_
                        refine tk_r ?_
                        refine ll_r ?_
                        refine bk_r ?_
                        refine tk_r ?_
                        obtain rfl := Option.some.inj hF
                        refine ret_le rfl ?_
                        exact (vle_refl _)
                      · refine at_skip ?_
                        refine bk_n ?_
                        refine at_keep [2, 3, 6, 7, 25, 26, 45, 46, 47, 48, 49, 52, 53, 54, 55, 56, 59, 60, 61, 62, 63, 64, 65, 69, 70, 87, 88, 89, 90, 91, 92, 93, 94, 95, 96, 97, 98, 99, 102, 103, 104, 105, 106, 107, 108, 109, 110, 111, 112, 113, 114, 115] rfl ?_
                        refine at_region ?_
                        obtain ⟨hb, hF⟩ := chk_some hF
                        refine s_add tabOK rfl rfl rfl hb rfl ?_
                        refine sxk 1 tabOK rfl ?_
                        refine aops_nil ?_
                        exact arr_loop ⟨(x7 + 1), hF, (le_down (down_all (ee_cons rfl rfl (Nat.le_of_ble_eq_true rfl) (ee_cons rfl rfl (Nat.le_of_ble_eq_true rfl) (ee_cons rfl rfl (Nat.le_of_ble_eq_true rfl) (ee_cons rfl rfl (Nat.le_of_ble_eq_true rfl) (ee_cons rfl rfl rfl (ee_cons rfl rfl rfl (ee_cons rfl rfl (Nat.le_of_ble_eq_true rfl) (ee_cons rfl rfl rfl (ee_cons rfl rfl (Nat.le_of_ble_eq_true rfl) (ee_cons rfl rfl rfl (ee_cons rfl rfl rfl (ee_cons rfl rfl (Nat.le_of_ble_eq_true rfl) (ee_cons rfl rfl rfl (ee_cons rfl rfl (Nat.le_of_ble_eq_true rfl) (ee_cons rfl rfl rfl (ee_cons rfl rfl rfl (ee_cons rfl rfl (Nat.le_of_ble_eq_true rfl) (ee_cons rfl rfl (cInstr.ok_psl _ rfl) (ee_cons rfl rfl rfl (ee_cons rfl rfl (Nat.le_of_ble_eq_true rfl) (ee_cons rfl rfl (cInstr.ok_psl _ rfl) (ee_cons rfl rfl rfl (ee_cons rfl rfl rfl (ee_cons rfl rfl rfl (ee_cons rfl rfl rfl ee_nil))))))))))))))))))))))))) (he_cons rfl rfl rfl (row_one (cImage.row_ok _ rfl)) (he_cons rfl rfl rfl (row_one (cImage.row_ok _ rfl)) (he_cons rfl rfl rfl (row_one (cCode.row_ok _ rfl)) (he_cons rfl rfl rfl (row_one (cCode.row_ok _ rfl)) he_nil)))) rfl rfl rfl rfl))⟩
                · refine at_exit ?_
                  refine tk_x ?_
                  refine ll_x ?_
                  refine bk_hit ?_
                  refine bk_n ?_
                  refine at_region ?_
                  obtain ⟨hb, hF⟩ := chk_some hF
                  refine s_add tabOK rfl rfl rfl hb rfl ?_
                  refine sxk 1 tabOK rfl ?_
                  refine aops_nil ?_
                  exact arr_loop ⟨(x3 + 1), hF, (le_down (down_all (ee_cons rfl rfl (Nat.le_of_ble_eq_true rfl) (ee_cons rfl rfl (Nat.le_of_ble_eq_true rfl) (ee_cons rfl rfl rfl (ee_cons rfl rfl rfl ee_nil)))) (he_cons rfl rfl rfl (row_one (cImage.row_ok _ rfl)) (he_cons rfl rfl rfl (row_one (cImage.row_ok _ rfl)) he_nil)) rfl rfl rfl rfl))⟩
      · refine at_exit ?_
        refine tk_x ?_
        refine ll_x ?_
        refine bk_hit ?_
        refine at_seq ?_
        refine at_region ?_
        refine sxk 1 tabOK rfl ?_
        refine aops_nil ?_
        refine at_ret ?_
        obtain rfl := Option.some.inj hF
        refine ret_le rfl ?_
        exact (vle_refl _)

theorem i_isShortName_ok (s : List UInt8) (q : Bool) (hF : i_isShortName s = some q) : FC Try.prog 93 [.str s] [] 3 (fun x _ => x = .bool q) := by
  refine FC.of_le ?_
  refine fc_body tabOK Try.func93 rfl Try.ntmps93 rfl rfl rfl ?_
  unfold i_isShortName at hF
  refine at_seq ?_
  refine at_region ?_
  refine sxk 1 tabOK rfl ?_
  refine aops_nil ?_
  refine at_seq ?_
  refine at_region ?_
  refine sxk 1 tabOK rfl ?_
  obtain ⟨x2, hx2, hF⟩ := bnd_some hF
  refine call_eq (i_IsSymbol_ok s x2 hx2) rfl ((rlL_cons (rfl) rlL_nil)) rfl rfl ?_
  refine sxk 1 tabOK rfl ?_
  refine ops_ifb (g := 5) hF rfl (fun hc hF => ?_) (fun hc hF => ?_)
  · refine sxk 5 tabOK rfl ?_
    refine aops_nil ?_
    refine at_ret ?_
    obtain rfl := Option.some.inj hF
    refine ret_le rfl ?_
    exact (vle_refl _)
  · refine sxk 5 tabOK rfl ?_
    refine aops_nil ?_
    refine at_ret ?_
    obtain rfl := Option.some.inj hF
    refine ret_le rfl ?_
    exact (vle_refl _)

end Go.Proofs.Ytiecdekmiabmkaa
