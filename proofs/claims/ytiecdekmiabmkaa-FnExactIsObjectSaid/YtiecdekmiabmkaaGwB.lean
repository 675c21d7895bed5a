/-
  Walks, made by wip/gen: B
-/
import Derived.Test.YtiecdekmiabmkaaGpB
import Derived.Test.YtiecdekmiabmkaaGwA
set_option linter.unusedVariables false
set_option linter.unusedSimpArgs false
namespace Go.Proofs.Ytiecdekmiabmkaa
open Go.Abs
attribute [local irreducible] AT AOps FC DR DN
set_option maxRecDepth 10000
set_option maxHeartbeats 4000000

theorem i_isShortName_ok (s : List UInt8) (q : Bool) (hF : i_isShortName s = some q) : FC Try.prog 93 [.str s] [] 3 (fun x _ => x = .bool q) := by
  refine FC.of_le ?_
  refine fc_body tabOK Try.func93 rfl Try.ntmps93 rfl rfl rfl ?_
  unfold i_isShortName at hF
  refine at_seq ?_
  refine at_region ?_
  refine sxk 1 tabOK rfl ?_
  refine aops_nil ?_
  refine at_seq ?_
  refine at_region ?_
  refine sxk 1 tabOK rfl ?_
  obtain ⟨x2, hx2, hF⟩ := bnd_some hF
  refine call_eq (i_IsSymbol_ok s x2 hx2) rfl ((rlL_cons (rfl) rlL_nil)) rfl rfl ?_
  refine sxk 1 tabOK rfl ?_
  refine ops_ifb (g := 5) hF rfl (fun hc hF => ?_) (fun hc hF => ?_)
  · refine sxk 5 tabOK rfl ?_
    refine aops_nil ?_
    refine at_ret ?_
    obtain rfl := Option.some.inj hF
    refine ret_le rfl ?_
    exact (vle_refl _)
  · refine sxk 5 tabOK rfl ?_
    refine aops_nil ?_
    refine at_ret ?_
    obtain rfl := Option.some.inj hF
    refine ret_le rfl ?_
    exact (vle_refl _)

theorem i_differentVariables_ok (lists : List (List Int)) (q : Bool) (hF : i_differentVariables lists = some q) : FC Try.prog 94 [.psl 0 1 (lists.map ((cSl cInt).enc 0))] [] 3 (fun x _ => x = .bool q) := by
  refine FC.of_le ?_
  refine fc_body tabOK Try.func94 rfl Try.ntmps94 rfl rfl rfl ?_
  unfold i_differentVariables at hF
  refine at_seq ?_
  refine at_region ?_
  refine sxk 1 tabOK rfl ?_
  refine aops_nil ?_
  refine at_seq ?_
  refine at_region ?_
  refine sm_make kInt kInt rfl rfl ?_
  refine sxk 1 tabOK rfl ?_
  refine aops_nil ?_
  refine at_seq ?_
  refine at_seq ?_
  refine at_region ?_
  refine sxk 1 tabOK rfl ?_
  refine sv rfl (oc_len (cSl cInt) tabOK rfl rfl rfl) rfl ?_
  refine sxk 1 tabOK rfl ?_
  refine aops_nil ?_
  refine at_block ?_
  refine cl_loop (σ := Int × (List (Int × Int))) (fun v => match v with | (x2, seen3) => ⟨[(3, .mp 3), (9, .psl 0 1 (lists.map ((cSl cInt).enc 0))), (10, .int .i64 (lists.length : Int)), (11, .int .i64 x2)], [(3, ⟨0, [mrow kInt kInt seen3]⟩)], 4, 37, []⟩) (i_differentVariables_L1 lists) LF (0, ([] : List (Int × Int))) hF (le_down (down_all (ee_cons rfl rfl (Nat.le_of_ble_eq_true rfl) (ee_cons rfl rfl ((cSl cInt).ok_psl _ rfl) (ee_cons rfl rfl rfl (ee_cons rfl rfl rfl ee_nil)))) (he_cons rfl rfl rfl (row_one (mrow_ok kInt kInt _ _)) he_nil) rfl rfl rfl rfl)) ?_
  rintro lk_ ⟨x2, seen3⟩ hF
  refine at_eq (s' := ⟨[(3, .mp 3), (9, .psl 0 1 (lists.map ((cSl cInt).enc 0))), (10, .int .i64 (lists.length : Int)), (11, .int .i64 x2)], [(3, ⟨0, [mrow kInt kInt seen3]⟩)], 4, 37, []⟩) rfl ?_
  replace hF : i_differentVariables_L1b lists (itr (i_differentVariables_L1 lists) lk_) x2 seen3 = some q := hF
  unfold i_differentVariables_L1b at hF
  generalize itr (i_differentVariables_L1 lists) lk_ = go4 at hF ⊢
  refine at_seq ?_
  refine at_region ?_
  refine sxk 1 tabOK rfl ?_
  refine aops_nil ?_
  refine at_seq ?_
  refine ct_if hF rfl (fun hc hF => ?_) (fun hc hF => ?_)
  · refine at_skip ?_
    refine at_seq ?_
    refine at_block ?_
    refine at_seq ?_
    refine at_region ?_
    obtain ⟨x5, hn_x5, hF⟩ := bnd_some hF
    refine sv rfl (oc_addr (cSl cInt) hn_x5 tabOK rfl rfl rfl rfl) rfl ?_
    refine sxk 2 tabOK rfl ?_
    refine aops_nil ?_
    refine at_seq ?_
    refine at_region ?_
    refine sxk 1 tabOK rfl ?_
    refine sv rfl (oc_len cInt tabOK rfl rfl rfl) rfl ?_
    refine sxk 1 tabOK rfl ?_
    refine aops_nil ?_
    refine at_block ?_
    refine cl_loop (σ := Int × (List (Int × Int))) (fun v => match v with | (x6, seen7) => ⟨[(3, .mp 3), (9, .psl 0 1 (lists.map ((cSl cInt).enc 0))), (10, .int .i64 (lists.length : Int)), (11, .int .i64 x2), (15, .psl 0 1 (x5.map (cInt.enc 0))), (16, .int .i64 (x5.length : Int)), (17, .int .i64 x6)], [(3, ⟨0, [mrow kInt kInt seen7]⟩)], 4, 37, []⟩) (i_differentVariables_L2 x2 go4 x5) LF (0, seen3) hF (le_down (down_all (ee_cons rfl rfl (Nat.le_of_ble_eq_true rfl) (ee_cons rfl rfl ((cSl cInt).ok_psl _ rfl) (ee_cons rfl rfl rfl (ee_cons rfl rfl rfl (ee_cons rfl rfl (cInt.ok_psl _ rfl) (ee_cons rfl rfl rfl (ee_cons rfl rfl rfl ee_nil))))))) (he_cons rfl rfl rfl (row_one (mrow_ok kInt kInt _ _)) he_nil) rfl rfl rfl rfl)) ?_
    rintro lk_ ⟨x6, seen7⟩ hF
    refine at_eq (s' := ⟨[(3, .mp 3), (9, .psl 0 1 (lists.map ((cSl cInt).enc 0))), (10, .int .i64 (lists.length : Int)), (11, .int .i64 x2), (15, .psl 0 1 (x5.map (cInt.enc 0))), (16, .int .i64 (x5.length : Int)), (17, .int .i64 x6)], [(3, ⟨0, [mrow kInt kInt seen7]⟩)], 4, 37, []⟩) rfl ?_
    replace hF : i_differentVariables_L2b x2 go4 x5 (itr (i_differentVariables_L2 x2 go4 x5) lk_) x6 seen7 = some q := hF
    unfold i_differentVariables_L2b at hF
    generalize itr (i_differentVariables_L2 x2 go4 x5) lk_ = go8 at hF ⊢
    refine at_seq ?_
    refine at_region ?_
    refine sxk 1 tabOK rfl ?_
    refine aops_nil ?_
    refine at_seq ?_
    refine ct_if hF rfl (fun hc hF => ?_) (fun hc hF => ?_)
    · refine at_skip ?_
      refine at_seq ?_
      refine at_block ?_
      refine at_seq ?_
      refine at_region ?_
      obtain ⟨x9, hn_x9, hF⟩ := bnd_some hF
      refine sv rfl (oc_addr cInt hn_x9 tabOK rfl rfl rfl rfl) rfl ?_
      refine sxk 2 tabOK rfl ?_
      refine aops_nil ?_
      refine at_seq ?_
      refine at_seq ?_
      refine at_region ?_
      refine sxk 3 tabOK rfl ?_
      refine ops_if (g := 23) hF rfl (fun hc hF => ?_) (fun hc hF => ?_)
      · refine sxk 9 tabOK rfl ?_
        refine aops_nil ?_
        refine at_true rfl ?_
        refine at_seq ?_
        refine at_keep [] rfl ?_
        refine at_region ?_
        refine sxk 1 tabOK rfl ?_
        refine aops_nil ?_
        refine at_ret ?_
        refine tk_r ?_
        refine bk_r ?_
        refine tk_r ?_
        refine ll_r ?_
        refine bk_r ?_
        refine bk_r ?_
        refine tk_r ?_
        refine ll_r ?_
        refine bk_r ?_
        refine tk_r ?_
        obtain rfl := Option.some.inj hF
        refine ret_le rfl ?_
        exact (vle_refl _)
      · refine sxk 4 tabOK rfl ?_
        refine ops_if (g := 27) hF rfl (fun hc hF => ?_) (fun hc hF => ?_)
        · refine sxk 5 tabOK rfl ?_
          refine aops_nil ?_
          refine at_true rfl ?_
          refine at_seq ?_
          refine at_keep [] rfl ?_
          refine at_region ?_
          refine sxk 1 tabOK rfl ?_
          refine aops_nil ?_
          refine at_ret ?_
          refine tk_r ?_
          refine bk_r ?_
          refine tk_r ?_
          refine ll_r ?_
          refine bk_r ?_
          refine bk_r ?_
          refine tk_r ?_
          refine ll_r ?_
          refine bk_r ?_
          refine tk_r ?_
          obtain rfl := Option.some.inj hF
          refine ret_le rfl ?_
          exact (vle_refl _)
        · refine sxk 2 tabOK rfl ?_
          refine sv rfl (om_get key_int (k := 3) z_3 tabOK rfl (keyT_int rfl) rfl rfl rfl) rfl ?_
          refine sxk 2 tabOK rfl ?_
          refine aops_nil ?_
          refine ct_if hF rfl (fun hc hF => ?_) (fun hc hF => ?_)
          · refine at_seq ?_
            refine at_keep [] rfl ?_
            refine at_region ?_
            refine sxk 1 tabOK rfl ?_
            refine aops_nil ?_
            refine at_ret ?_
            refine tk_r ?_
            refine bk_r ?_
            refine tk_r ?_
            refine ll_r ?_
            refine bk_r ?_
            refine bk_r ?_
            refine tk_r ?_
            refine ll_r ?_
            refine bk_r ?_
            refine tk_r ?_
            obtain rfl := Option.some.inj hF
            refine ret_le rfl ?_
            exact (vle_refl _)
          · refine at_skip ?_
            refine at_keep [3, 7, 9, 10, 11, 15, 16, 17, 24, 25, 28, 29, 30, 31] rfl ?_
            refine at_region ?_
            refine sxk 2 tabOK rfl ?_
            refine sm_put (E := kInt) (k := 3) (e := 3) key_int tabOK rfl rfl (keyT_int rfl) rfl rfl rfl rfl rfl ?_
            refine aops_nil ?_
            refine bk_n ?_
            refine at_region ?_
            obtain ⟨hb, hF⟩ := chk_some hF
            refine s_add tabOK rfl rfl rfl hb rfl ?_
            refine sxk 1 tabOK rfl ?_
            refine aops_nil ?_
            exact arr_loop ⟨((x6 + 1), (mput seen7 x9 1)), hF, (le_down (down_all (ee_cons rfl rfl (Nat.le_of_ble_eq_true rfl) (ee_cons rfl rfl ((cSl cInt).ok_psl _ rfl) (ee_cons rfl rfl rfl (ee_cons rfl rfl rfl (ee_cons rfl rfl (cInt.ok_psl _ rfl) (ee_cons rfl rfl rfl (ee_cons rfl rfl rfl ee_nil))))))) (he_cons rfl rfl rfl (row_one (mrow_ok kInt kInt _ _)) he_nil) rfl rfl rfl rfl))⟩
    · refine at_exit ?_
      refine tk_x ?_
      refine ll_x ?_
      refine bk_hit ?_
      refine bk_n ?_
      refine at_region ?_
      obtain ⟨hb, hF⟩ := chk_some hF
      refine s_add tabOK rfl rfl rfl hb rfl ?_
      refine sxk 1 tabOK rfl ?_
      refine aops_nil ?_
      exact arr_loop ⟨((x2 + 1), seen7), hF, (le_down (down_all (ee_cons rfl rfl (Nat.le_of_ble_eq_true rfl) (ee_cons rfl rfl ((cSl cInt).ok_psl _ rfl) (ee_cons rfl rfl rfl (ee_cons rfl rfl rfl ee_nil)))) (he_cons rfl rfl rfl (row_one (mrow_ok kInt kInt _ _)) he_nil) rfl rfl rfl rfl))⟩
  · refine at_exit ?_
    refine tk_x ?_
    refine ll_x ?_
    refine bk_hit ?_
    refine at_seq ?_
    refine at_region ?_
    refine sxk 1 tabOK rfl ?_
    refine aops_nil ?_
    refine at_ret ?_
    obtain rfl := Option.some.inj hF
    refine ret_le rfl ?_
    exact (vle_refl _)

theorem i_IsObject_ok (o : PObj) (q : Bool) (hF : i_IsObject o = some q) : FC Try.prog 52 [.agg (cObj.row 0 o)] [] 3 (fun x _ => x = .bool q) := by
  refine FC.of_le ?_
  refine fc_body tabOK Try.func52 rfl Try.ntmps52 rfl rfl rfl ?_
  unfold i_IsObject at hF
  refine at_seq ?_
  refine at_region ?_
  refine sxk 2 tabOK rfl ?_
  refine aops_nil ?_
  refine at_seq ?_
  refine at_region ?_
  refine sxk 2 tabOK rfl ?_
  obtain ⟨x2, hx2, hF⟩ := bnd_some hF
  refine call_eq (i_isShortName_ok o.name x2 hx2) rfl ((rlL_cons (rfl) rlL_nil)) rfl rfl ?_
  refine sxk 1 tabOK rfl ?_
  refine ops_ifb (g := 6) hF rfl (fun hc hF => ?_) (fun hc hF => ?_)
  · refine sxk 4 tabOK rfl ?_
    refine sc_slit (cSl cInt) (l := 0) ([o.defines, o.uses] : List (List Int)) tabOK rfl rfl rfl rfl rfl rfl rfl ?_
    refine ops_le (le_freezeL 11 [] rfl rfl rfl (by simp) rfl) ?_
    obtain ⟨x3, hx3, hF⟩ := bnd_some hF
    refine call_eq (i_differentVariables_ok ([o.defines, o.uses] : List (List Int)) x3 hx3) rfl ((rlL_cons ((cSl cInt).rl_psl2 (l := 1) (l2 := 0) (l' := 0) _ ([o.defines, o.uses] : List (List Int)) rfl rfl) rlL_nil)) rfl rfl ?_
    refine sxk 2 tabOK rfl ?_
    refine ops_ifb (g := 14) hF rfl (fun hc hF => ?_) (fun hc hF => ?_)
    · refine sxk 4 tabOK rfl ?_
      refine sv rfl (oc_len cInt tabOK rfl rfl rfl) rfl ?_
      refine sxk 2 tabOK rfl ?_
      refine sv rfl (oc_len cInt tabOK rfl rfl rfl) rfl ?_
      obtain ⟨hb, hF⟩ := chk_some hF
      refine s_add tabOK rfl rfl rfl hb rfl ?_
      obtain ⟨x4, hx4, hF⟩ := bnd_some hF
      refine call_eq (i_IsImage_ok o.image ((o.defines.length : Int) + (o.uses.length : Int)) x4 hx4) rfl ((rlL_cons (cImage.rl_agg (l := 0) (l' := 0) _ o.image rfl) (rlL_cons (rfl) rlL_nil))) rfl rfl ?_
      refine sxk 2 tabOK rfl ?_
      refine aops_nil ?_
      refine at_ret ?_
      obtain rfl := Option.some.inj hF
      refine ret_le rfl ?_
      exact (vle_refl _)
    · refine sxk 12 tabOK rfl ?_
      refine aops_nil ?_
      refine at_ret ?_
      obtain rfl := Option.some.inj hF
      refine ret_le rfl ?_
      exact (vle_refl _)
  · refine sxk 20 tabOK rfl ?_
    refine aops_nil ?_
    refine at_ret ?_
    obtain rfl := Option.some.inj hF
    refine ret_le rfl ?_
    exact (vle_refl _)

theorem s_HasScope_ok (list : List Int) (x_1 : Int) (q : Bool) (hF : s_HasScope list x_1 = some q) : FC Try.prog 121 [.psl 0 1 (list.map (cInt.enc 0)), .int .i64 x_1] [] 3 (fun x _ => x = .bool q) := by
  refine FC.of_le ?_
  refine fc_body tabOK Try.func121 rfl Try.ntmps121 rfl rfl rfl ?_
  unfold s_HasScope at hF
  refine at_seq ?_
  refine at_region ?_
  refine sxk 1 tabOK rfl ?_
  refine aops_nil ?_
  refine at_seq ?_
  refine at_seq ?_
  refine at_region ?_
  refine sxk 1 tabOK rfl ?_
  refine sv rfl (oc_len cInt tabOK rfl rfl rfl) rfl ?_
  refine sxk 1 tabOK rfl ?_
  refine aops_nil ?_
  refine at_block ?_
  refine cl_loop (σ := Int) (fun x3 => ⟨[(1, .int .i64 x_1), (7, .psl 0 1 (list.map (cInt.enc 0))), (8, .int .i64 (list.length : Int)), (9, .int .i64 x3)], [], 3, 17, []⟩) (s_HasScope_L1 list x_1) LF 0 hF (le_down (down_all (ee_cons rfl rfl rfl (ee_cons rfl rfl (cInt.ok_psl _ rfl) (ee_cons rfl rfl rfl (ee_cons rfl rfl rfl ee_nil)))) he_nil rfl rfl rfl rfl)) ?_
  rintro lk_ x3 hF
  refine at_eq (s' := ⟨[(1, .int .i64 x_1), (7, .psl 0 1 (list.map (cInt.enc 0))), (8, .int .i64 (list.length : Int)), (9, .int .i64 x3)], [], 3, 17, []⟩) rfl ?_
  replace hF : s_HasScope_L1b list x_1 (itr (s_HasScope_L1 list x_1) lk_) x3 = some q := hF
  unfold s_HasScope_L1b at hF
  generalize itr (s_HasScope_L1 list x_1) lk_ = go4 at hF ⊢
  refine at_seq ?_
  refine at_region ?_
  refine sxk 1 tabOK rfl ?_
  refine aops_nil ?_
  refine at_seq ?_
  refine ct_if hF rfl (fun hc hF => ?_) (fun hc hF => ?_)
  · refine at_skip ?_
    refine at_seq ?_
    refine at_block ?_
    refine at_seq ?_
    refine at_region ?_
    obtain ⟨x5, hn_x5, hF⟩ := bnd_some hF
    refine sv rfl (oc_addr cInt hn_x5 tabOK rfl rfl rfl rfl) rfl ?_
    refine sxk 2 tabOK rfl ?_
    refine aops_nil ?_
    refine at_seq ?_
    refine at_region ?_
    refine sxk 3 tabOK rfl ?_
    refine aops_nil ?_
    refine ct_if hF rfl (fun hc hF => ?_) (fun hc hF => ?_)
    · refine at_seq ?_
      refine at_keep [] rfl ?_
      refine at_region ?_
      refine sxk 1 tabOK rfl ?_
      refine aops_nil ?_
      refine at_ret ?_
      refine bk_r ?_
      refine tk_r ?_
      refine ll_r ?_
      refine bk_r ?_
      refine tk_r ?_
      obtain rfl := Option.some.inj hF
      refine ret_le rfl ?_
      exact (vle_refl _)
    · refine at_skip ?_
      refine bk_n ?_
      refine at_keep [1, 7, 8, 9] rfl ?_
      refine at_region ?_
      obtain ⟨hb, hF⟩ := chk_some hF
      refine s_add tabOK rfl rfl rfl hb rfl ?_
      refine sxk 1 tabOK rfl ?_
      refine aops_nil ?_
      exact arr_loop ⟨(x3 + 1), hF, (le_down (down_all (ee_cons rfl rfl rfl (ee_cons rfl rfl (cInt.ok_psl _ rfl) (ee_cons rfl rfl rfl (ee_cons rfl rfl rfl ee_nil)))) he_nil rfl rfl rfl rfl))⟩
  · refine at_exit ?_
    refine tk_x ?_
    refine ll_x ?_
    refine bk_hit ?_
    refine at_seq ?_
    refine at_region ?_
    refine sxk 1 tabOK rfl ?_
    refine aops_nil ?_
    refine at_ret ?_
    obtain rfl := Option.some.inj hF
    refine ret_le rfl ?_
    exact (vle_refl _)

end Go.Proofs.Ytiecdekmiabmkaa
