/-
  Walks, made by wip/gen: D
-/
import Derived.Test.YtiecdekmiabmkaaGpD
import Derived.Test.YtiecdekmiabmkaaGwC
set_option linter.unusedVariables false
set_option linter.unusedSimpArgs false
namespace Go.Proofs.Ytiecdekmiabmkaa
open Go.Abs
attribute [local irreducible] AT AOps FC DR DN
set_option maxRecDepth 10000
set_option maxHeartbeats 4000000

theorem w_markText_ok (k : Int) (q : List UInt8) (hF : w_markText k = some q) : FC Try.prog 79 [.int .i64 k] [] 3 (fun x _ => x = .str q) := by
  refine FC.of_le ?_
  refine fc_body tabOK Try.func79 rfl Try.ntmps79 rfl rfl rfl ?_
  unfold w_markText at hF
  refine at_seq ?_
  refine at_region ?_
  refine sxk 1 tabOK rfl ?_
  refine aops_nil ?_
  refine at_seq ?_
  refine at_seq ?_
  refine at_region ?_
  refine sxk 2 tabOK rfl ?_
  refine aops_nil ?_
  refine ct_if hF rfl (fun hc hF => ?_) (fun hc hF => ?_)
  · refine at_seq ?_
    refine at_region ?_
    refine sxk 1 tabOK rfl ?_
    refine aops_nil ?_
    refine at_ret ?_
    refine tk_r ?_
    obtain rfl := Option.some.inj hF
    refine ret_le rfl ?_
    exact (vle_refl _)
  · refine at_skip ?_
    refine at_seq ?_
    refine at_region ?_
    refine sxk 1 tabOK rfl ?_
    refine aops_nil ?_
    refine at_seq ?_
    refine at_block ?_
    refine cl_loop (σ := Int × List UInt8) (fun v => match v with | (k2, out3) => ⟨[(0, .int .i64 k2), (3, .str out3)], [], 3, 20, []⟩) w_markText_L1 LF (k, ([] : List UInt8)) hF (le_down (down_all (ee_cons rfl rfl rfl (ee_cons rfl rfl rfl ee_nil)) he_nil rfl rfl rfl rfl)) ?_
    rintro lk_ ⟨k2, out3⟩ hF
    refine at_eq (s' := ⟨[(0, .int .i64 k2), (3, .str out3)], [], 3, 20, []⟩) rfl ?_
    replace hF : w_markText_L1b (itr w_markText_L1 lk_) k2 out3 = some q := hF
    unfold w_markText_L1b at hF
    generalize itr w_markText_L1 lk_ = go4 at hF ⊢
    refine at_seq ?_
    refine at_seq ?_
    refine at_region ?_
    refine sxk 2 tabOK rfl ?_
    refine aops_nil ?_
    refine ct_if hF rfl (fun hc hF => ?_) (fun hc hF => ?_)
    · refine at_skip ?_
      refine at_block ?_
      refine at_seq ?_
      refine at_region ?_
      refine sxk 1 tabOK rfl ?_
      obtain ⟨hb, hF⟩ := chk_some hF
      refine sv rfl (oc_rem rfl rfl hb) rfl ?_
      obtain ⟨hb, hF⟩ := chk_some hF
      refine s_add tabOK rfl rfl rfl hb rfl ?_
      obtain ⟨hb, hF⟩ := chk_some hF
      refine sv rfl (ov_toByte hb tabOK rfl rfl rfl) rfl ?_
      refine sc_slit cByte (l := 0) ([(UInt8.ofNat (48 + (k2 % 10)).toNat)] : List UInt8) tabOK rfl rfl rfl rfl rfl rfl rfl ?_
      refine sv rfl (ov_bytesH tabOK rfl rfl rfl rfl) rfl ?_
      refine sxk 1 tabOK rfl ?_
      obtain ⟨hb, hF⟩ := chk_some hF
      refine sv rfl (ov_cat rfl rfl hb) rfl ?_
      refine sxk 1 tabOK rfl ?_
      refine aops_nil ?_
      refine at_keep [0, 3] rfl ?_
      refine at_region ?_
      refine sxk 1 tabOK rfl ?_
      obtain ⟨hb, hF⟩ := chk_some hF
      refine sv rfl (oc_quo rfl rfl hb) rfl ?_
      refine sxk 1 tabOK rfl ?_
      refine aops_nil ?_
      refine bk_n ?_
      exact arr_loop ⟨((k2 / 10), (([(UInt8.ofNat (48 + (k2 % 10)).toNat)] : List UInt8) ++ out3)), hF, (le_down (down_all (ee_cons rfl rfl rfl (ee_cons rfl rfl rfl ee_nil)) he_nil rfl rfl rfl rfl))⟩
    · refine at_exit ?_
      refine tk_x ?_
      refine ll_x ?_
      refine bk_hit ?_
      refine at_seq ?_
      refine at_region ?_
      refine sxk 1 tabOK rfl ?_
      obtain ⟨hb, hF⟩ := chk_some hF
      refine sv rfl (ov_cat rfl rfl hb) rfl ?_
      refine sxk 1 tabOK rfl ?_
      refine aops_nil ?_
      refine at_ret ?_
      obtain rfl := Option.some.inj hF
      refine ret_le rfl ?_
      exact (vle_refl _)

theorem w_markDatumS_bok (w_markDatumS : List PDat → Int → Option (Int × List PDat)) (h_w_markDatumS : ∀ (a : List PDat) (k : Int) (q : Int × List PDat), w_markDatumS a k = some q → FC Try.prog 78 [.hsl 0 0 a.length, .int .i64 k] [(0, ⟨4, a.map (cDat.enc 2)⟩)] 3 (fun x h2 => x = .int .i64 q.1 ∧ hget h2 0 = some ⟨4, q.2.map (cDat.enc 2)⟩)) (a : List PDat) (k : Int) (q : Int × List PDat) (hF : w_markDatumS_b w_markDatumS a k = some q) : FC Try.prog 78 [.hsl 0 0 a.length, .int .i64 k] [(0, ⟨4, a.map (cDat.enc 2)⟩)] 3 (fun x h2 => x = .int .i64 q.1 ∧ hget h2 0 = some ⟨4, q.2.map (cDat.enc 2)⟩) := by
  refine FC.of_le_lent ?_
  refine fc_body tabOK Try.func78 rfl Try.ntmps78 rfl rfl rfl ?_
  unfold w_markDatumS_b at hF
  refine at_seq ?_
  refine at_region ?_
  refine sxk 1 tabOK rfl ?_
  refine aops_nil ?_
  refine at_seq ?_
  refine at_seq ?_
  refine at_region ?_
  refine sxk 1 tabOK rfl ?_
  refine aops_nil ?_
  refine at_block ?_
  refine cl_loop (σ := Int × Int × List PDat) (fun v => match v with | (k4, i5, a6) => ⟨[(0, .hsl 0 0 a6.length), (1, .int .i64 k4), (5, .int .i64 i5)], [(0, ⟨4, a6.map (cDat.enc 2)⟩)], 3, 42, []⟩) (w_markDatumS_L1 w_markDatumS) LF (k, 0, a) hF (le_down (down_all (ee_cons rfl rfl (Nat.le_of_ble_eq_true rfl) (ee_cons rfl rfl rfl (ee_cons rfl rfl rfl ee_nil))) (he_cons rfl rfl rfl (cDat.rows_ok _ rfl) he_nil) rfl rfl rfl rfl)) ?_
  rintro lk_ ⟨k4, i5, a6⟩ hF
  refine at_eq (s' := ⟨[(0, .hsl 0 0 a6.length), (1, .int .i64 k4), (5, .int .i64 i5)], [(0, ⟨4, a6.map (cDat.enc 2)⟩)], 3, 42, []⟩) rfl ?_
  replace hF : w_markDatumS_L1b w_markDatumS (itr (w_markDatumS_L1 w_markDatumS) lk_) k4 i5 a6 = some q := hF
  unfold w_markDatumS_L1b at hF
  generalize itr (w_markDatumS_L1 w_markDatumS) lk_ = go7 at hF ⊢
  refine at_seq ?_
  refine at_seq ?_
  refine at_region ?_
  refine sxk 2 tabOK rfl ?_
  refine sv rfl (oc_hlen cDat tabOK rfl rfl rfl) rfl ?_
  refine sxk 1 tabOK rfl ?_
  refine aops_nil ?_
  refine ct_if hF rfl (fun hc hF => ?_) (fun hc hF => ?_)
  · refine at_skip ?_
    refine at_seq ?_
    refine at_block ?_
    refine at_seq ?_
    refine at_region ?_
    refine sxk 3 tabOK rfl ?_
    obtain ⟨x8, hn_x8, hF⟩ := bnd_some hF
    refine sv rfl (oc_haddr cDat hn_x8 tabOK rfl rfl rfl rfl) rfl ?_
    refine sv rfl (oc_hfield tabOK rfl rfl rfl rfl (by simp)) rfl ?_
    refine sc_store cDat (v' := (PDat.mk k4 x8.number x8.text x8.items)) hn_x8 tabOK rfl rfl rfl rfl rfl rfl rfl rfl ?_
    refine ops_le (le_slot (y := .hsl 0 0 (a6.set i5.toNat (PDat.mk k4 x8.number x8.text x8.items)).length) 0 rfl (vle_eq (congrArg (V.hsl 0 0) (by simp))) rfl) ?_
    refine aops_nil ?_
    refine at_seq ?_
    refine at_keep [0, 1, 5] rfl ?_
    refine at_region ?_
    refine sxk 1 tabOK rfl ?_
    obtain ⟨hb, hF⟩ := chk_some hF
    refine s_add tabOK rfl rfl rfl hb rfl ?_
    refine sxk 1 tabOK rfl ?_
    refine aops_nil ?_
    refine at_seq ?_
    refine at_region ?_
    refine sxk 3 tabOK rfl ?_
    obtain ⟨x9, hn_x9, hF⟩ := bnd_some hF
    refine sv rfl (oc_haddr cDat hn_x9 tabOK rfl rfl rfl rfl) rfl ?_
    refine sv rfl (oc_hfield tabOK rfl rfl rfl rfl (by simp)) rfl ?_
    refine sc_store cDat (v' := (PDat.mk x9.kind (k4 + 1) x9.text x9.items)) hn_x9 tabOK rfl rfl rfl rfl rfl rfl rfl rfl ?_
    refine ops_le (le_slot (y := .hsl 0 0 ((a6.set i5.toNat (PDat.mk k4 x8.number x8.text x8.items)).set i5.toNat (PDat.mk x9.kind (k4 + 1) x9.text x9.items)).length) 0 rfl (vle_eq (congrArg (V.hsl 0 0) (by simp))) rfl) ?_
    refine aops_nil ?_
    refine at_seq ?_
    refine at_keep [0, 1, 5] rfl ?_
    refine at_region ?_
    refine sxk 1 tabOK rfl ?_
    obtain ⟨hb, hF⟩ := chk_some hF
    refine s_add tabOK rfl rfl rfl hb rfl ?_
    refine sxk 1 tabOK rfl ?_
    refine aops_nil ?_
    refine at_seq ?_
    refine at_region ?_
    refine sxk 3 tabOK rfl ?_
    obtain ⟨x10, hx10, hF⟩ := bnd_some hF
    refine call_eq (w_markText_ok ((k4 + 1) + 1) x10 hx10) rfl ((rlL_cons (rfl) rlL_nil)) rfl rfl ?_
    obtain ⟨x11, hn_x11, hF⟩ := bnd_some hF
    refine sv rfl (oc_haddr cDat hn_x11 tabOK rfl rfl rfl rfl) rfl ?_
    refine sv rfl (oc_hfield tabOK rfl rfl rfl rfl (by simp)) rfl ?_
    refine sc_store cDat (v' := (PDat.mk x11.kind x11.number x10 x11.items)) hn_x11 tabOK rfl rfl rfl rfl rfl rfl rfl rfl ?_
    refine ops_le (le_slot (y := .hsl 0 0 (((a6.set i5.toNat (PDat.mk k4 x8.number x8.text x8.items)).set i5.toNat (PDat.mk x9.kind (k4 + 1) x9.text x9.items)).set i5.toNat (PDat.mk x11.kind x11.number x10 x11.items)).length) 0 rfl (vle_eq (congrArg (V.hsl 0 0) (by simp))) rfl) ?_
    refine aops_nil ?_
    refine at_seq ?_
    refine at_keep [0, 1, 5] rfl ?_
    refine at_region ?_
    refine sxk 1 tabOK rfl ?_
    obtain ⟨hb, hF⟩ := chk_some hF
    refine s_add tabOK rfl rfl rfl hb rfl ?_
    refine sxk 1 tabOK rfl ?_
    refine aops_nil ?_
    refine at_region ?_
    refine sxk 2 tabOK rfl ?_
    obtain ⟨x12, hn_x12, hF⟩ := bnd_some hF
    refine sv rfl (oc_haddr cDat hn_x12 tabOK rfl rfl rfl rfl) rfl ?_
    refine sv rfl (oc_hfield tabOK rfl rfl rfl rfl (by simp)) rfl ?_
    refine ops_le (le_openN 0 i5.toNat x12.items.length [.int .i64 x12.kind, .int .i64 x12.number, .str x12.text] [] rfl rfl rfl (cDat.at2 hn_x12) (len_map _ _) rfl rfl) ?_
    refine sv rfl (oc_loadx cDat (l := 2) hn_x12 tabOK rfl rfl rfl rfl) rfl ?_
    refine sxk 1 tabOK rfl ?_
    obtain ⟨x13, hx13, hF⟩ := bnd_some hF
    obtain ⟨hb_x13, hF⟩ := chk_some hF
    refine call_lend1 3 (h_w_markDatumS x12.items (((k4 + 1) + 1) + 1) x13 hx13) rfl (rnL_cons rfl (rnL_cons rfl rnL_nil)) rfl (Cd.rnR cDat _ x12.items rfl) (rn_of_rl _ rfl) (Cd.rnR cDat _ x13.2 rfl) rfl ?_
    refine ops_le (le_closeN 0 3 i5.toNat x12.items.length [.int .i64 x12.kind, .int .i64 x12.number, .str x12.text] [] rfl rfl rfl rfl rfl ((len_map _ _).trans hb_x13) (cDat.atx _ hn_x12) (Cd.dps0 cDat 2 (fun _ => rfl) _) rfl rfl) ?_
    refine ops_le (le_rows 0 (rows' := ((((a6.set i5.toNat (PDat.mk k4 x8.number x8.text x8.items)).set i5.toNat (PDat.mk x9.kind (k4 + 1) x9.text x9.items)).set i5.toNat (PDat.mk x11.kind x11.number x10 x11.items)).set i5.toNat (PDat.mk x12.kind x12.number x12.text x13.2)).map (cDat.enc 2)) rfl ((set_set' _ _ _ _).trans (cDat.setx (((a6.set i5.toNat (PDat.mk k4 x8.number x8.text x8.items)).set i5.toNat (PDat.mk x9.kind (k4 + 1) x9.text x9.items)).set i5.toNat (PDat.mk x11.kind x11.number x10 x11.items)) i5.toNat (PDat.mk x12.kind x12.number x12.text x13.2))) rfl) ?_
    refine ops_le (le_slot (y := .hsl 0 0 ((((a6.set i5.toNat (PDat.mk k4 x8.number x8.text x8.items)).set i5.toNat (PDat.mk x9.kind (k4 + 1) x9.text x9.items)).set i5.toNat (PDat.mk x11.kind x11.number x10 x11.items)).set i5.toNat (PDat.mk x12.kind x12.number x12.text x13.2)).length) 0 rfl (vle_eq (congrArg (V.hsl 0 0) (by simp))) rfl) ?_
    refine sxk 1 tabOK rfl ?_
    refine aops_nil ?_
    refine bk_n ?_
    refine at_keep [0, 1, 5] rfl ?_
    refine at_region ?_
    refine sxk 1 tabOK rfl ?_
    obtain ⟨hb, hF⟩ := chk_some hF
    refine s_add tabOK rfl rfl rfl hb rfl ?_
    refine sxk 1 tabOK rfl ?_
    refine aops_nil ?_
    exact arr_loop ⟨(x13.1, (i5 + 1), ((((a6.set i5.toNat (PDat.mk k4 x8.number x8.text x8.items)).set i5.toNat (PDat.mk x9.kind (k4 + 1) x9.text x9.items)).set i5.toNat (PDat.mk x11.kind x11.number x10 x11.items)).set i5.toNat (PDat.mk x12.kind x12.number x12.text x13.2))), hF, (le_down (down_all (ee_cons rfl rfl (Nat.le_of_ble_eq_true rfl) (ee_cons rfl rfl rfl (ee_cons rfl rfl rfl ee_nil))) (he_cons rfl rfl rfl (cDat.rows_ok _ rfl) he_nil) rfl rfl rfl rfl))⟩
  · refine at_exit ?_
    refine tk_x ?_
    refine ll_x ?_
    refine bk_hit ?_
    refine at_seq ?_
    refine at_region ?_
    refine sxk 2 tabOK rfl ?_
    refine aops_nil ?_
    refine at_ret ?_
    obtain rfl := Option.some.inj hF
    exact ret_lent rfl ((vle_refl _)) rfl

theorem w_markDatumS_all (n : Nat) : (∀ (a : List PDat) (k : Int) (q : Int × List PDat), w_markDatumS n a k = some q → FC Try.prog 78 [.hsl 0 0 a.length, .int .i64 k] [(0, ⟨4, a.map (cDat.enc 2)⟩)] 3 (fun x h2 => x = .int .i64 q.1 ∧ hget h2 0 = some ⟨4, q.2.map (cDat.enc 2)⟩)) := by
  induction n with
  | zero => exact fun _ _ q h => by cases h
  | succ n ih => exact fun a k q h => w_markDatumS_bok (w_markDatumS n) ih a k q h

theorem w_markDatumS_ok (n : Nat) (a : List PDat) (k : Int) (q : Int × List PDat) (hF : w_markDatumS n a k = some q) : FC Try.prog 78 [.hsl 0 0 a.length, .int .i64 k] [(0, ⟨4, a.map (cDat.enc 2)⟩)] 3 (fun x h2 => x = .int .i64 q.1 ∧ hget h2 0 = some ⟨4, q.2.map (cDat.enc 2)⟩) := (w_markDatumS_all n) a k q hF

theorem w_szValue_ok (a : PVal) (left : Int) (q : Int) (hF : w_szValue a left = some q) : FC Try.prog 19 [.agg (cVal.row 0 a), .int .i64 left] [] 3 (fun x _ => x = .int .i64 q) := by
  refine FC.of_le ?_
  refine fc_body tabOK Try.func19 rfl Try.ntmps19 rfl rfl rfl ?_
  unfold w_szValue at hF
  refine at_seq ?_
  refine at_region ?_
  refine sxk 2 tabOK rfl ?_
  refine aops_nil ?_
  refine at_seq ?_
  refine at_region ?_
  refine sxk 4 tabOK rfl ?_
  obtain ⟨hb, hF⟩ := chk_some hF
  refine s_sub tabOK rfl rfl rfl hb rfl ?_
  refine sxk 1 tabOK rfl ?_
  refine aops_nil ?_
  refine at_seq ?_
  refine at_seq ?_
  refine at_keep [1] rfl ?_
  refine at_region ?_
  refine sxk 2 tabOK rfl ?_
  refine aops_nil ?_
  refine ct_if hF rfl (fun hc hF => ?_) (fun hc hF => ?_)
  · refine at_seq ?_
    refine at_region ?_
    refine sxk 1 tabOK rfl ?_
    refine aops_nil ?_
    refine at_ret ?_
    refine tk_r ?_
    obtain rfl := Option.some.inj hF
    refine ret_le rfl ?_
    exact (vle_refl _)
  · refine at_skip ?_
    refine at_seq ?_
    refine at_region ?_
    refine sxk 2 tabOK rfl ?_
    refine aops_nil ?_
    refine at_ret ?_
    obtain rfl := Option.some.inj hF
    refine ret_le rfl ?_
    exact (vle_refl _)

theorem w_szPair_ok (a : PPair) (left : Int) (q : Int) (hF : w_szPair a left = some q) : FC Try.prog 58 [.agg (cPair.row 0 a), .int .i64 left] [] 3 (fun x _ => x = .int .i64 q) := by
  refine FC.of_le ?_
  refine fc_body tabOK Try.func58 rfl Try.ntmps58 rfl rfl rfl ?_
  unfold w_szPair at hF
  refine at_seq ?_
  refine at_region ?_
  refine sxk 2 tabOK rfl ?_
  refine aops_nil ?_
  refine at_seq ?_
  refine at_region ?_
  refine sxk 3 tabOK rfl ?_
  obtain ⟨x3, hx3, hF⟩ := bnd_some hF
  refine call_eq (w_szValue_ok a.h left x3 hx3) rfl ((rlL_cons (cVal.rl_agg (l := 0) (l' := 0) _ a.h rfl) (rlL_cons (rfl) rlL_nil))) rfl rfl ?_
  refine sxk 1 tabOK rfl ?_
  refine aops_nil ?_
  refine at_seq ?_
  refine at_seq ?_
  refine at_region ?_
  refine sxk 2 tabOK rfl ?_
  refine aops_nil ?_
  refine ct_if hF rfl (fun hc hF => ?_) (fun hc hF => ?_)
  · refine at_seq ?_
    refine at_keep [] rfl ?_
    refine at_region ?_
    refine sxk 1 tabOK rfl ?_
    refine aops_nil ?_
    refine at_ret ?_
    refine tk_r ?_
    obtain rfl := Option.some.inj hF
    refine ret_le rfl ?_
    exact (vle_refl _)
  · refine at_skip ?_
    refine at_seq ?_
    refine at_keep [1, 2] rfl ?_
    refine at_region ?_
    refine sxk 3 tabOK rfl ?_
    obtain ⟨x4, hx4, hF⟩ := bnd_some hF
    refine call_eq (w_szValue_ok a.t x3 x4 hx4) rfl ((rlL_cons (cVal.rl_agg (l := 0) (l' := 0) _ a.t rfl) (rlL_cons (rfl) rlL_nil))) rfl rfl ?_
    refine sxk 1 tabOK rfl ?_
    refine aops_nil ?_
    refine at_seq ?_
    refine at_seq ?_
    refine at_region ?_
    refine sxk 2 tabOK rfl ?_
    refine aops_nil ?_
    refine ct_if hF rfl (fun hc hF => ?_) (fun hc hF => ?_)
    · refine at_seq ?_
      refine at_keep [] rfl ?_
      refine at_region ?_
      refine sxk 1 tabOK rfl ?_
      refine aops_nil ?_
      refine at_ret ?_
      refine tk_r ?_
      obtain rfl := Option.some.inj hF
      refine ret_le rfl ?_
      exact (vle_refl _)
    · refine at_skip ?_
      refine at_seq ?_
      refine at_keep [1] rfl ?_
      refine at_region ?_
      refine sxk 2 tabOK rfl ?_
      refine aops_nil ?_
      refine at_ret ?_
      obtain rfl := Option.some.inj hF
      refine ret_le rfl ?_
      exact (vle_refl _)

theorem w_szPairS_ok (a : List PPair) (left : Int) (q : Int) (hF : w_szPairS a left = some q) : FC Try.prog 14 [.psl 0 6 (a.map (cPair.enc 0)), .int .i64 left] [] 3 (fun x _ => x = .int .i64 q) := by
  refine FC.of_le ?_
  refine fc_body tabOK Try.func14 rfl Try.ntmps14 rfl rfl rfl ?_
  unfold w_szPairS at hF
  refine at_seq ?_
  refine at_region ?_
  refine sxk 1 tabOK rfl ?_
  refine aops_nil ?_
  refine at_seq ?_
  refine at_region ?_
  refine sxk 2 tabOK rfl ?_
  refine sv rfl (oc_len cPair tabOK rfl rfl rfl) rfl ?_
  obtain ⟨hb, hF⟩ := chk_some hF
  refine s_sub tabOK rfl rfl rfl hb rfl ?_
  refine sxk 1 tabOK rfl ?_
  refine aops_nil ?_
  refine at_seq ?_
  refine at_seq ?_
  refine at_region ?_
  refine sxk 2 tabOK rfl ?_
  refine aops_nil ?_
  refine ct_if hF rfl (fun hc hF => ?_) (fun hc hF => ?_)
  · refine at_seq ?_
    refine at_keep [] rfl ?_
    refine at_region ?_
    refine sxk 1 tabOK rfl ?_
    refine aops_nil ?_
    refine at_ret ?_
    refine tk_r ?_
    obtain rfl := Option.some.inj hF
    refine ret_le rfl ?_
    exact (vle_refl _)
  · refine at_skip ?_
    refine at_seq ?_
    refine at_seq ?_
    refine at_keep [0, 1] rfl ?_
    refine at_region ?_
    refine sxk 1 tabOK rfl ?_
    refine aops_nil ?_
    refine at_block ?_
    refine cl_loop (σ := Int × Int) (fun v => match v with | (left3, i4) => ⟨[(0, .psl 0 6 (a.map (cPair.enc 0))), (1, .int .i64 left3), (5, .int .i64 i4)], [], 3, 27, []⟩) (w_szPairS_L1 a) LF ((left - (a.length : Int)), 0) hF (le_down (down_all (ee_cons rfl rfl (cPair.ok_psl _ rfl) (ee_cons rfl rfl rfl (ee_cons rfl rfl rfl ee_nil))) he_nil rfl rfl rfl rfl)) ?_
    rintro lk_ ⟨left3, i4⟩ hF
    refine at_eq (s' := ⟨[(0, .psl 0 6 (a.map (cPair.enc 0))), (1, .int .i64 left3), (5, .int .i64 i4)], [], 3, 27, []⟩) rfl ?_
    replace hF : w_szPairS_L1b a (itr (w_szPairS_L1 a) lk_) left3 i4 = some q := hF
    unfold w_szPairS_L1b at hF
    generalize itr (w_szPairS_L1 a) lk_ = go5 at hF ⊢
    refine at_seq ?_
    refine at_seq ?_
    refine at_region ?_
    refine sxk 2 tabOK rfl ?_
    refine sv rfl (oc_len cPair tabOK rfl rfl rfl) rfl ?_
    refine sxk 1 tabOK rfl ?_
    refine aops_nil ?_
    refine ct_if hF rfl (fun hc hF => ?_) (fun hc hF => ?_)
    · refine at_skip ?_
      refine at_seq ?_
      refine at_block ?_
      refine at_seq ?_
      refine at_region ?_
      refine sxk 2 tabOK rfl ?_
      obtain ⟨x6, hn_x6, hF⟩ := bnd_some hF
      refine sv rfl (oc_addr cPair hn_x6 tabOK rfl rfl rfl rfl) rfl ?_
      refine sxk 2 tabOK rfl ?_
      obtain ⟨x7, hx7, hF⟩ := bnd_some hF
      refine call_eq (w_szPair_ok x6 left3 x7 hx7) rfl ((rlL_cons (cPair.rl_agg (l := 0) (l' := 0) _ x6 rfl) (rlL_cons (rfl) rlL_nil))) rfl rfl ?_
      refine sxk 1 tabOK rfl ?_
      refine aops_nil ?_
      refine at_seq ?_
      refine at_keep [0, 1, 5] rfl ?_
      refine at_region ?_
      refine sxk 2 tabOK rfl ?_
      refine aops_nil ?_
      refine ct_if hF rfl (fun hc hF => ?_) (fun hc hF => ?_)
      · refine at_seq ?_
        refine at_region ?_
        refine sxk 1 tabOK rfl ?_
        refine aops_nil ?_
        refine at_ret ?_
        refine bk_r ?_
        refine tk_r ?_
        refine ll_r ?_
        refine bk_r ?_
        refine tk_r ?_
        obtain rfl := Option.some.inj hF
        refine ret_le rfl ?_
        exact (vle_refl _)
      · refine at_skip ?_
        refine bk_n ?_
        refine at_region ?_
        refine sxk 1 tabOK rfl ?_
        obtain ⟨hb, hF⟩ := chk_some hF
        refine s_add tabOK rfl rfl rfl hb rfl ?_
        refine sxk 1 tabOK rfl ?_
        refine aops_nil ?_
        exact arr_loop ⟨(x7, (i4 + 1)), hF, (le_down (down_all (ee_cons rfl rfl (cPair.ok_psl _ rfl) (ee_cons rfl rfl rfl (ee_cons rfl rfl rfl ee_nil))) he_nil rfl rfl rfl rfl))⟩
    · refine at_exit ?_
      refine tk_x ?_
      refine ll_x ?_
      refine bk_hit ?_
      refine at_seq ?_
      refine at_region ?_
      refine sxk 2 tabOK rfl ?_
      refine aops_nil ?_
      refine at_ret ?_
      obtain rfl := Option.some.inj hF
      refine ret_le rfl ?_
      exact (vle_refl _)

theorem w_szDatum_bok (w_szDatum : PDat → Int → Option Int) (w_szDatumS : List PDat → Int → Option Int) (h_w_szDatum : ∀ (a : PDat) (left : Int) (q : Int), w_szDatum a left = some q → FC Try.prog 33 [.agg (cDat.row 0 a), .int .i64 left] [] 3 (fun x _ => x = .int .i64 q)) (h_w_szDatumS : ∀ (a : List PDat) (left : Int) (q : Int), w_szDatumS a left = some q → FC Try.prog 69 [.psl 0 4 (a.map (cDat.enc 0)), .int .i64 left] [] 3 (fun x _ => x = .int .i64 q)) (a : PDat) (left : Int) (q : Int) (hF : w_szDatum_b w_szDatum w_szDatumS a left = some q) : FC Try.prog 33 [.agg (cDat.row 0 a), .int .i64 left] [] 3 (fun x _ => x = .int .i64 q) := by
  refine FC.of_le ?_
  refine fc_body tabOK Try.func33 rfl Try.ntmps33 rfl rfl rfl ?_
  unfold w_szDatum_b at hF
  refine at_seq ?_
  refine at_region ?_
  refine sxk 2 tabOK rfl ?_
  refine aops_nil ?_
  refine at_seq ?_
  refine at_region ?_
  refine sxk 4 tabOK rfl ?_
  obtain ⟨hb, hF⟩ := chk_some hF
  refine s_sub tabOK rfl rfl rfl hb rfl ?_
  refine sxk 1 tabOK rfl ?_
  refine aops_nil ?_
  refine at_seq ?_
  refine at_seq ?_
  refine at_keep [1, 2] rfl ?_
  refine at_region ?_
  refine sxk 2 tabOK rfl ?_
  refine aops_nil ?_
  refine ct_if hF rfl (fun hc hF => ?_) (fun hc hF => ?_)
  · refine at_seq ?_
    refine at_region ?_
    refine sxk 1 tabOK rfl ?_
    refine aops_nil ?_
    refine at_ret ?_
    refine tk_r ?_
    obtain rfl := Option.some.inj hF
    refine ret_le rfl ?_
    exact (vle_refl _)
  · refine at_skip ?_
    refine at_seq ?_
    refine at_region ?_
    refine sxk 3 tabOK rfl ?_
    obtain ⟨x5, hx5, hF⟩ := bnd_some hF
    refine call_eq (h_w_szDatumS a.items (left - (a.text.length : Int)) x5 hx5) rfl ((rlL_cons (cDat.rl_psl (l := 0) (l' := 0) _ a.items rfl) (rlL_cons (rfl) rlL_nil))) rfl rfl ?_
    refine sxk 1 tabOK rfl ?_
    refine aops_nil ?_
    refine at_seq ?_
    refine at_seq ?_
    refine at_keep [1] rfl ?_
    refine at_region ?_
    refine sxk 2 tabOK rfl ?_
    refine aops_nil ?_
    refine ct_if hF rfl (fun hc hF => ?_) (fun hc hF => ?_)
    · refine at_seq ?_
      refine at_region ?_
      refine sxk 1 tabOK rfl ?_
      refine aops_nil ?_
      refine at_ret ?_
      refine tk_r ?_
      obtain rfl := Option.some.inj hF
      refine ret_le rfl ?_
      exact (vle_refl _)
    · refine at_skip ?_
      refine at_seq ?_
      refine at_region ?_
      refine sxk 2 tabOK rfl ?_
      refine aops_nil ?_
      refine at_ret ?_
      obtain rfl := Option.some.inj hF
      refine ret_le rfl ?_
      exact (vle_refl _)

theorem w_szDatumS_bok (w_szDatum : PDat → Int → Option Int) (w_szDatumS : List PDat → Int → Option Int) (h_w_szDatum : ∀ (a : PDat) (left : Int) (q : Int), w_szDatum a left = some q → FC Try.prog 33 [.agg (cDat.row 0 a), .int .i64 left] [] 3 (fun x _ => x = .int .i64 q)) (h_w_szDatumS : ∀ (a : List PDat) (left : Int) (q : Int), w_szDatumS a left = some q → FC Try.prog 69 [.psl 0 4 (a.map (cDat.enc 0)), .int .i64 left] [] 3 (fun x _ => x = .int .i64 q)) (a : List PDat) (left : Int) (q : Int) (hF : w_szDatumS_b w_szDatum w_szDatumS a left = some q) : FC Try.prog 69 [.psl 0 4 (a.map (cDat.enc 0)), .int .i64 left] [] 3 (fun x _ => x = .int .i64 q) := by
  refine FC.of_le ?_
  refine fc_body tabOK Try.func69 rfl Try.ntmps69 rfl rfl rfl ?_
  unfold w_szDatumS_b at hF
  refine at_seq ?_
  refine at_region ?_
  refine sxk 1 tabOK rfl ?_
  refine aops_nil ?_
  refine at_seq ?_
  refine at_region ?_
  refine sxk 2 tabOK rfl ?_
  refine sv rfl (oc_len cDat tabOK rfl rfl rfl) rfl ?_
  obtain ⟨hb, hF⟩ := chk_some hF
  refine s_sub tabOK rfl rfl rfl hb rfl ?_
  refine sxk 1 tabOK rfl ?_
  refine aops_nil ?_
  refine at_seq ?_
  refine at_seq ?_
  refine at_region ?_
  refine sxk 2 tabOK rfl ?_
  refine aops_nil ?_
  refine ct_if hF rfl (fun hc hF => ?_) (fun hc hF => ?_)
  · refine at_seq ?_
    refine at_keep [] rfl ?_
    refine at_region ?_
    refine sxk 1 tabOK rfl ?_
    refine aops_nil ?_
    refine at_ret ?_
    refine tk_r ?_
    obtain rfl := Option.some.inj hF
    refine ret_le rfl ?_
    exact (vle_refl _)
  · refine at_skip ?_
    refine at_seq ?_
    refine at_seq ?_
    refine at_keep [0, 1] rfl ?_
    refine at_region ?_
    refine sxk 1 tabOK rfl ?_
    refine aops_nil ?_
    refine at_block ?_
    refine cl_loop (σ := Int × Int) (fun v => match v with | (left5, i6) => ⟨[(0, .psl 0 4 (a.map (cDat.enc 0))), (1, .int .i64 left5), (5, .int .i64 i6)], [], 3, 27, []⟩) (w_szDatumS_L1 w_szDatum a) LF ((left - (a.length : Int)), 0) hF (le_down (down_all (ee_cons rfl rfl (cDat.ok_psl _ rfl) (ee_cons rfl rfl rfl (ee_cons rfl rfl rfl ee_nil))) he_nil rfl rfl rfl rfl)) ?_
    rintro lk_ ⟨left5, i6⟩ hF
    refine at_eq (s' := ⟨[(0, .psl 0 4 (a.map (cDat.enc 0))), (1, .int .i64 left5), (5, .int .i64 i6)], [], 3, 27, []⟩) rfl ?_
    replace hF : w_szDatumS_L1b w_szDatum a (itr (w_szDatumS_L1 w_szDatum a) lk_) left5 i6 = some q := hF
    unfold w_szDatumS_L1b at hF
    generalize itr (w_szDatumS_L1 w_szDatum a) lk_ = go7 at hF ⊢
    refine at_seq ?_
    refine at_seq ?_
    refine at_region ?_
    refine sxk 2 tabOK rfl ?_
    refine sv rfl (oc_len cDat tabOK rfl rfl rfl) rfl ?_
    refine sxk 1 tabOK rfl ?_
    refine aops_nil ?_
    refine ct_if hF rfl (fun hc hF => ?_) (fun hc hF => ?_)
    · refine at_skip ?_
      refine at_seq ?_
      refine at_block ?_
      refine at_seq ?_
      refine at_region ?_
      refine sxk 2 tabOK rfl ?_
      obtain ⟨x8, hn_x8, hF⟩ := bnd_some hF
      refine sv rfl (oc_addr cDat hn_x8 tabOK rfl rfl rfl rfl) rfl ?_
      refine sxk 2 tabOK rfl ?_
      obtain ⟨x9, hx9, hF⟩ := bnd_some hF
      refine call_eq (h_w_szDatum x8 left5 x9 hx9) rfl ((rlL_cons (cDat.rl_agg (l := 0) (l' := 0) _ x8 rfl) (rlL_cons (rfl) rlL_nil))) rfl rfl ?_
      refine sxk 1 tabOK rfl ?_
      refine aops_nil ?_
      refine at_seq ?_
      refine at_keep [0, 1, 5] rfl ?_
      refine at_region ?_
      refine sxk 2 tabOK rfl ?_
      refine aops_nil ?_
      refine ct_if hF rfl (fun hc hF => ?_) (fun hc hF => ?_)
      · refine at_seq ?_
        refine at_region ?_
        refine sxk 1 tabOK rfl ?_
        refine aops_nil ?_
        refine at_ret ?_
        refine bk_r ?_
        refine tk_r ?_
        refine ll_r ?_
        refine bk_r ?_
        refine tk_r ?_
        obtain rfl := Option.some.inj hF
        refine ret_le rfl ?_
        exact (vle_refl _)
      · refine at_skip ?_
        refine bk_n ?_
        refine at_region ?_
        refine sxk 1 tabOK rfl ?_
        obtain ⟨hb, hF⟩ := chk_some hF
        refine s_add tabOK rfl rfl rfl hb rfl ?_
        refine sxk 1 tabOK rfl ?_
        refine aops_nil ?_
        exact arr_loop ⟨(x9, (i6 + 1)), hF, (le_down (down_all (ee_cons rfl rfl (cDat.ok_psl _ rfl) (ee_cons rfl rfl rfl (ee_cons rfl rfl rfl ee_nil))) he_nil rfl rfl rfl rfl))⟩
    · refine at_exit ?_
      refine tk_x ?_
      refine ll_x ?_
      refine bk_hit ?_
      refine at_seq ?_
      refine at_region ?_
      refine sxk 2 tabOK rfl ?_
      refine aops_nil ?_
      refine at_ret ?_
      obtain rfl := Option.some.inj hF
      refine ret_le rfl ?_
      exact (vle_refl _)

theorem w_szDatum_all (n : Nat) : (∀ (a : PDat) (left : Int) (q : Int), w_szDatum n a left = some q → FC Try.prog 33 [.agg (cDat.row 0 a), .int .i64 left] [] 3 (fun x _ => x = .int .i64 q)) ∧ (∀ (a : List PDat) (left : Int) (q : Int), w_szDatumS n a left = some q → FC Try.prog 69 [.psl 0 4 (a.map (cDat.enc 0)), .int .i64 left] [] 3 (fun x _ => x = .int .i64 q)) := by
  induction n with
  | zero => exact ⟨(fun _ _ q h => by cases h), (fun _ _ q h => by cases h)⟩
  | succ n ih => exact ⟨fun a left q h => w_szDatum_bok (w_szDatum n) (w_szDatumS n) ih.1 ih.2 a left q h, fun a left q h => w_szDatumS_bok (w_szDatum n) (w_szDatumS n) ih.1 ih.2 a left q h⟩

theorem w_szDatum_ok (n : Nat) (a : PDat) (left : Int) (q : Int) (hF : w_szDatum n a left = some q) : FC Try.prog 33 [.agg (cDat.row 0 a), .int .i64 left] [] 3 (fun x _ => x = .int .i64 q) := (w_szDatum_all n).1 a left q hF

theorem w_szDatumS_ok (n : Nat) (a : List PDat) (left : Int) (q : Int) (hF : w_szDatumS n a left = some q) : FC Try.prog 69 [.psl 0 4 (a.map (cDat.enc 0)), .int .i64 left] [] 3 (fun x _ => x = .int .i64 q) := (w_szDatum_all n).2 a left q hF

theorem w_eqValue_ok (a : PVal) (b : PVal) (q : Bool) (hF : w_eqValue a b = some q) : FC Try.prog 31 [.agg (cVal.row 0 a), .agg (cVal.row 0 b)] [] 3 (fun x _ => x = .bool q) := by
  refine FC.of_le ?_
  refine fc_body tabOK Try.func31 rfl Try.ntmps31 rfl rfl rfl ?_
  unfold w_eqValue at hF
  refine at_seq ?_
  refine at_region ?_
  refine sxk 3 tabOK rfl ?_
  refine aops_nil ?_
  refine at_seq ?_
  refine at_seq ?_
  refine at_region ?_
  refine sxk 5 tabOK rfl ?_
  refine aops_nil ?_
  refine ct_ifn hF rfl (fun hc hF => ?_) (fun hc hF => ?_)
  · refine at_seq ?_
    refine at_keep [] rfl ?_
    refine at_region ?_
    refine sxk 1 tabOK rfl ?_
    refine aops_nil ?_
    refine at_ret ?_
    refine tk_r ?_
    obtain rfl := Option.some.inj hF
    refine ret_le rfl ?_
    exact (vle_refl _)
  · refine at_skip ?_
    refine at_seq ?_
    refine at_seq ?_
    refine at_keep [2, 3] rfl ?_
    refine at_region ?_
    refine sxk 5 tabOK rfl ?_
    refine aops_nil ?_
    refine ct_ifn hF rfl (fun hc hF => ?_) (fun hc hF => ?_)
    · refine at_seq ?_
      refine at_keep [] rfl ?_
      refine at_region ?_
      refine sxk 1 tabOK rfl ?_
      refine aops_nil ?_
      refine at_ret ?_
      refine tk_r ?_
      obtain rfl := Option.some.inj hF
      refine ret_le rfl ?_
      exact (vle_refl _)
    · refine at_skip ?_
      refine at_seq ?_
      refine at_seq ?_
      refine at_region ?_
      refine sxk 5 tabOK rfl ?_
      refine aops_nil ?_
      refine ct_ifn hF rfl (fun hc hF => ?_) (fun hc hF => ?_)
      · refine at_seq ?_
        refine at_keep [] rfl ?_
        refine at_region ?_
        refine sxk 1 tabOK rfl ?_
        refine aops_nil ?_
        refine at_ret ?_
        refine tk_r ?_
        obtain rfl := Option.some.inj hF
        refine ret_le rfl ?_
        exact (vle_refl _)
      · refine at_skip ?_
        refine at_seq ?_
        refine at_keep [] rfl ?_
        refine at_region ?_
        refine sxk 1 tabOK rfl ?_
        refine aops_nil ?_
        refine at_ret ?_
        obtain rfl := Option.some.inj hF
        refine ret_le rfl ?_
        exact (vle_refl _)

theorem w_eqPair_ok (a : PPair) (b : PPair) (q : Bool) (hF : w_eqPair a b = some q) : FC Try.prog 61 [.agg (cPair.row 0 a), .agg (cPair.row 0 b)] [] 3 (fun x _ => x = .bool q) := by
  refine FC.of_le ?_
  refine fc_body tabOK Try.func61 rfl Try.ntmps61 rfl rfl rfl ?_
  unfold w_eqPair at hF
  refine at_seq ?_
  refine at_region ?_
  refine sxk 3 tabOK rfl ?_
  refine aops_nil ?_
  refine at_seq ?_
  refine at_seq ?_
  refine at_region ?_
  refine sxk 4 tabOK rfl ?_
  obtain ⟨x3, hx3, hF⟩ := bnd_some hF
  refine call_eq (w_eqValue_ok a.h b.h x3 hx3) rfl ((rlL_cons (cVal.rl_agg (l := 0) (l' := 0) _ a.h rfl) (rlL_cons (cVal.rl_agg (l := 0) (l' := 0) _ b.h rfl) rlL_nil))) rfl rfl ?_
  refine sxk 1 tabOK rfl ?_
  refine aops_nil ?_
  refine ct_bn hF rfl (fun hc hF => ?_) (fun hc hF => ?_)
  · refine at_seq ?_
    refine at_keep [] rfl ?_
    refine at_region ?_
    refine sxk 1 tabOK rfl ?_
    refine aops_nil ?_
    refine at_ret ?_
    refine tk_r ?_
    obtain rfl := Option.some.inj hF
    refine ret_le rfl ?_
    exact (vle_refl _)
  · refine at_skip ?_
    refine at_seq ?_
    refine at_seq ?_
    refine at_keep [2, 3] rfl ?_
    refine at_region ?_
    refine sxk 4 tabOK rfl ?_
    obtain ⟨x4, hx4, hF⟩ := bnd_some hF
    refine call_eq (w_eqValue_ok a.t b.t x4 hx4) rfl ((rlL_cons (cVal.rl_agg (l := 0) (l' := 0) _ a.t rfl) (rlL_cons (cVal.rl_agg (l := 0) (l' := 0) _ b.t rfl) rlL_nil))) rfl rfl ?_
    refine sxk 1 tabOK rfl ?_
    refine aops_nil ?_
    refine ct_bn hF rfl (fun hc hF => ?_) (fun hc hF => ?_)
    · refine at_seq ?_
      refine at_keep [] rfl ?_
      refine at_region ?_
      refine sxk 1 tabOK rfl ?_
      refine aops_nil ?_
      refine at_ret ?_
      refine tk_r ?_
      obtain rfl := Option.some.inj hF
      refine ret_le rfl ?_
      exact (vle_refl _)
    · refine at_skip ?_
      refine at_seq ?_
      refine at_keep [] rfl ?_
      refine at_region ?_
      refine sxk 1 tabOK rfl ?_
      refine aops_nil ?_
      refine at_ret ?_
      obtain rfl := Option.some.inj hF
      refine ret_le rfl ?_
      exact (vle_refl _)

theorem w_eqPairS_ok (a : List PPair) (b : List PPair) (q : Bool) (hF : w_eqPairS a b = some q) : FC Try.prog 18 [.psl 0 6 (a.map (cPair.enc 0)), .psl 0 6 (b.map (cPair.enc 0))] [] 3 (fun x _ => x = .bool q) := by
  refine FC.of_le ?_
  refine fc_body tabOK Try.func18 rfl Try.ntmps18 rfl rfl rfl ?_
  unfold w_eqPairS at hF
  refine at_seq ?_
  refine at_region ?_
  refine sxk 1 tabOK rfl ?_
  refine aops_nil ?_
  refine at_seq ?_
  refine at_seq ?_
  refine at_region ?_
  refine sxk 1 tabOK rfl ?_
  refine sv rfl (oc_len cPair tabOK rfl rfl rfl) rfl ?_
  refine sxk 1 tabOK rfl ?_
  refine sv rfl (oc_len cPair tabOK rfl rfl rfl) rfl ?_
  refine sxk 1 tabOK rfl ?_
  refine aops_nil ?_
  refine ct_ifn hF rfl (fun hc hF => ?_) (fun hc hF => ?_)
  · refine at_seq ?_
    refine at_keep [] rfl ?_
    refine at_region ?_
    refine sxk 1 tabOK rfl ?_
    refine aops_nil ?_
    refine at_ret ?_
    refine tk_r ?_
    obtain rfl := Option.some.inj hF
    refine ret_le rfl ?_
    exact (vle_refl _)
  · refine at_skip ?_
    refine at_seq ?_
    refine at_seq ?_
    refine at_region ?_
    refine sxk 1 tabOK rfl ?_
    refine aops_nil ?_
    refine at_block ?_
    refine cl_loop (σ := Int) (fun i3 => ⟨[(0, .psl 0 6 (a.map (cPair.enc 0))), (1, .psl 0 6 (b.map (cPair.enc 0))), (5, .int .i64 i3)], [], 3, 27, []⟩) (w_eqPairS_L1 a b) LF 0 hF (le_down (down_all (ee_cons rfl rfl (cPair.ok_psl _ rfl) (ee_cons rfl rfl (cPair.ok_psl _ rfl) (ee_cons rfl rfl rfl ee_nil))) he_nil rfl rfl rfl rfl)) ?_
    rintro lk_ i3 hF
    refine at_eq (s' := ⟨[(0, .psl 0 6 (a.map (cPair.enc 0))), (1, .psl 0 6 (b.map (cPair.enc 0))), (5, .int .i64 i3)], [], 3, 27, []⟩) rfl ?_
    replace hF : w_eqPairS_L1b a b (itr (w_eqPairS_L1 a b) lk_) i3 = some q := hF
    unfold w_eqPairS_L1b at hF
    generalize itr (w_eqPairS_L1 a b) lk_ = go4 at hF ⊢
    refine at_seq ?_
    refine at_seq ?_
    refine at_region ?_
    refine sxk 2 tabOK rfl ?_
    refine sv rfl (oc_len cPair tabOK rfl rfl rfl) rfl ?_
    refine sxk 1 tabOK rfl ?_
    refine aops_nil ?_
    refine ct_if hF rfl (fun hc hF => ?_) (fun hc hF => ?_)
    · refine at_skip ?_
      refine at_seq ?_
      refine at_block ?_
      refine at_seq ?_
      refine at_drawnM (id := 6) 8 (by kernel_rfl) (by kernel_rfl) ?_
      refine nx tabOK rfl ?_
      refine nx tabOK rfl ?_
      obtain ⟨x5, hn_x5, hF⟩ := bnd_some hF
      refine nv rfl (oc_addr cPair hn_x5 tabOK rfl rfl rfl rfl) rfl ?_
      refine nx tabOK rfl ?_
      refine nx tabOK rfl ?_
      refine nx tabOK rfl ?_
      obtain ⟨x6, hn_x6, hF⟩ := bnd_some hF
      refine nv rfl (oc_addr cPair hn_x6 tabOK rfl rfl rfl rfl) rfl ?_
      refine nx tabOK rfl ?_
      refine dn_nil rfl ?_
      obtain ⟨x7, hx7, hF⟩ := bnd_some hF
      refine call_eq (w_eqPair_ok x5 x6 x7 hx7) rfl ((rlL_cons (cPair.rl_agg (l := 0) (l' := 0) _ x5 rfl) (rlL_cons (cPair.rl_agg (l := 0) (l' := 0) _ x6 rfl) rlL_nil))) rfl rfl ?_
      refine sxk 1 tabOK rfl ?_
      refine aops_nil ?_
      refine ct_bn hF rfl (fun hc hF => ?_) (fun hc hF => ?_)
      · refine at_seq ?_
        refine at_keep [] rfl ?_
        refine at_region ?_
        refine sxk 1 tabOK rfl ?_
        refine aops_nil ?_
        refine at_ret ?_
        refine bk_r ?_
        refine tk_r ?_
        refine ll_r ?_
        refine bk_r ?_
        refine tk_r ?_
        obtain rfl := Option.some.inj hF
        refine ret_le rfl ?_
        exact (vle_refl _)
      · refine at_skip ?_
        refine bk_n ?_
        refine at_keep [0, 1, 5] rfl ?_
        refine at_region ?_
        refine sxk 1 tabOK rfl ?_
        obtain ⟨hb, hF⟩ := chk_some hF
        refine s_add tabOK rfl rfl rfl hb rfl ?_
        refine sxk 1 tabOK rfl ?_
        refine aops_nil ?_
        exact arr_loop ⟨(i3 + 1), hF, (le_down (down_all (ee_cons rfl rfl (cPair.ok_psl _ rfl) (ee_cons rfl rfl (cPair.ok_psl _ rfl) (ee_cons rfl rfl rfl ee_nil))) he_nil rfl rfl rfl rfl))⟩
    · refine at_exit ?_
      refine tk_x ?_
      refine ll_x ?_
      refine bk_hit ?_
      refine at_seq ?_
      refine at_keep [] rfl ?_
      refine at_region ?_
      refine sxk 1 tabOK rfl ?_
      refine aops_nil ?_
      refine at_ret ?_
      obtain rfl := Option.some.inj hF
      refine ret_le rfl ?_
      exact (vle_refl _)

theorem w_eqDatum_bok (w_eqDatum : PDat → PDat → Option Bool) (w_eqDatumS : List PDat → List PDat → Option Bool) (h_w_eqDatum : ∀ (a : PDat) (b : PDat) (q : Bool), w_eqDatum a b = some q → FC Try.prog 37 [.agg (cDat.row 0 a), .agg (cDat.row 0 b)] [] 3 (fun x _ => x = .bool q)) (h_w_eqDatumS : ∀ (a : List PDat) (b : List PDat) (q : Bool), w_eqDatumS a b = some q → FC Try.prog 77 [.psl 0 4 (a.map (cDat.enc 0)), .psl 0 4 (b.map (cDat.enc 0))] [] 3 (fun x _ => x = .bool q)) (a : PDat) (b : PDat) (q : Bool) (hF : w_eqDatum_b w_eqDatum w_eqDatumS a b = some q) : FC Try.prog 37 [.agg (cDat.row 0 a), .agg (cDat.row 0 b)] [] 3 (fun x _ => x = .bool q) := by
  refine FC.of_le ?_
  refine fc_body tabOK Try.func37 rfl Try.ntmps37 rfl rfl rfl ?_
  unfold w_eqDatum_b at hF
  refine at_seq ?_
  refine at_region ?_
  refine sxk 3 tabOK rfl ?_
  refine aops_nil ?_
  refine at_seq ?_
  refine at_seq ?_
  refine at_region ?_
  refine sxk 5 tabOK rfl ?_
  refine aops_nil ?_
  refine ct_ifn hF rfl (fun hc hF => ?_) (fun hc hF => ?_)
  · refine at_seq ?_
    refine at_keep [] rfl ?_
    refine at_region ?_
    refine sxk 1 tabOK rfl ?_
    refine aops_nil ?_
    refine at_ret ?_
    refine tk_r ?_
    obtain rfl := Option.some.inj hF
    refine ret_le rfl ?_
    exact (vle_refl _)
  · refine at_skip ?_
    refine at_seq ?_
    refine at_seq ?_
    refine at_keep [2, 3] rfl ?_
    refine at_region ?_
    refine sxk 5 tabOK rfl ?_
    refine aops_nil ?_
    refine ct_ifn hF rfl (fun hc hF => ?_) (fun hc hF => ?_)
    · refine at_seq ?_
      refine at_keep [] rfl ?_
      refine at_region ?_
      refine sxk 1 tabOK rfl ?_
      refine aops_nil ?_
      refine at_ret ?_
      refine tk_r ?_
      obtain rfl := Option.some.inj hF
      refine ret_le rfl ?_
      exact (vle_refl _)
    · refine at_skip ?_
      refine at_seq ?_
      refine at_seq ?_
      refine at_region ?_
      refine sxk 5 tabOK rfl ?_
      refine aops_nil ?_
      refine ct_ifn hF rfl (fun hc hF => ?_) (fun hc hF => ?_)
      · refine at_seq ?_
        refine at_keep [] rfl ?_
        refine at_region ?_
        refine sxk 1 tabOK rfl ?_
        refine aops_nil ?_
        refine at_ret ?_
        refine tk_r ?_
        obtain rfl := Option.some.inj hF
        refine ret_le rfl ?_
        exact (vle_refl _)
      · refine at_skip ?_
        refine at_seq ?_
        refine at_seq ?_
        refine at_keep [2, 3] rfl ?_
        refine at_region ?_
        refine sxk 4 tabOK rfl ?_
        obtain ⟨x5, hx5, hF⟩ := bnd_some hF
        refine call_eq (h_w_eqDatumS a.items b.items x5 hx5) rfl ((rlL_cons (cDat.rl_psl (l := 0) (l' := 0) _ a.items rfl) (rlL_cons (cDat.rl_psl (l := 0) (l' := 0) _ b.items rfl) rlL_nil))) rfl rfl ?_
        refine sxk 1 tabOK rfl ?_
        refine aops_nil ?_
        refine ct_bn hF rfl (fun hc hF => ?_) (fun hc hF => ?_)
        · refine at_seq ?_
          refine at_keep [] rfl ?_
          refine at_region ?_
          refine sxk 1 tabOK rfl ?_
          refine aops_nil ?_
          refine at_ret ?_
          refine tk_r ?_
          obtain rfl := Option.some.inj hF
          refine ret_le rfl ?_
          exact (vle_refl _)
        · refine at_skip ?_
          refine at_seq ?_
          refine at_keep [] rfl ?_
          refine at_region ?_
          refine sxk 1 tabOK rfl ?_
          refine aops_nil ?_
          refine at_ret ?_
          obtain rfl := Option.some.inj hF
          refine ret_le rfl ?_
          exact (vle_refl _)

theorem w_eqDatumS_bok (w_eqDatum : PDat → PDat → Option Bool) (w_eqDatumS : List PDat → List PDat → Option Bool) (h_w_eqDatum : ∀ (a : PDat) (b : PDat) (q : Bool), w_eqDatum a b = some q → FC Try.prog 37 [.agg (cDat.row 0 a), .agg (cDat.row 0 b)] [] 3 (fun x _ => x = .bool q)) (h_w_eqDatumS : ∀ (a : List PDat) (b : List PDat) (q : Bool), w_eqDatumS a b = some q → FC Try.prog 77 [.psl 0 4 (a.map (cDat.enc 0)), .psl 0 4 (b.map (cDat.enc 0))] [] 3 (fun x _ => x = .bool q)) (a : List PDat) (b : List PDat) (q : Bool) (hF : w_eqDatumS_b w_eqDatum w_eqDatumS a b = some q) : FC Try.prog 77 [.psl 0 4 (a.map (cDat.enc 0)), .psl 0 4 (b.map (cDat.enc 0))] [] 3 (fun x _ => x = .bool q) := by
  refine FC.of_le ?_
  refine fc_body tabOK Try.func77 rfl Try.ntmps77 rfl rfl rfl ?_
  unfold w_eqDatumS_b at hF
  refine at_seq ?_
  refine at_region ?_
  refine sxk 1 tabOK rfl ?_
  refine aops_nil ?_
  refine at_seq ?_
  refine at_seq ?_
  refine at_region ?_
  refine sxk 1 tabOK rfl ?_
  refine sv rfl (oc_len cDat tabOK rfl rfl rfl) rfl ?_
  refine sxk 1 tabOK rfl ?_
  refine sv rfl (oc_len cDat tabOK rfl rfl rfl) rfl ?_
  refine sxk 1 tabOK rfl ?_
  refine aops_nil ?_
  refine ct_ifn hF rfl (fun hc hF => ?_) (fun hc hF => ?_)
  · refine at_seq ?_
    refine at_keep [] rfl ?_
    refine at_region ?_
    refine sxk 1 tabOK rfl ?_
    refine aops_nil ?_
    refine at_ret ?_
    refine tk_r ?_
    obtain rfl := Option.some.inj hF
    refine ret_le rfl ?_
    exact (vle_refl _)
  · refine at_skip ?_
    refine at_seq ?_
    refine at_seq ?_
    refine at_region ?_
    refine sxk 1 tabOK rfl ?_
    refine aops_nil ?_
    refine at_block ?_
    refine cl_loop (σ := Int) (fun i5 => ⟨[(0, .psl 0 4 (a.map (cDat.enc 0))), (1, .psl 0 4 (b.map (cDat.enc 0))), (5, .int .i64 i5)], [], 3, 27, []⟩) (w_eqDatumS_L1 w_eqDatum a b) LF 0 hF (le_down (down_all (ee_cons rfl rfl (cDat.ok_psl _ rfl) (ee_cons rfl rfl (cDat.ok_psl _ rfl) (ee_cons rfl rfl rfl ee_nil))) he_nil rfl rfl rfl rfl)) ?_
    rintro lk_ i5 hF
    refine at_eq (s' := ⟨[(0, .psl 0 4 (a.map (cDat.enc 0))), (1, .psl 0 4 (b.map (cDat.enc 0))), (5, .int .i64 i5)], [], 3, 27, []⟩) rfl ?_
    replace hF : w_eqDatumS_L1b w_eqDatum a b (itr (w_eqDatumS_L1 w_eqDatum a b) lk_) i5 = some q := hF
    unfold w_eqDatumS_L1b at hF
    generalize itr (w_eqDatumS_L1 w_eqDatum a b) lk_ = go6 at hF ⊢
    refine at_seq ?_
    refine at_seq ?_
    refine at_region ?_
    refine sxk 2 tabOK rfl ?_
    refine sv rfl (oc_len cDat tabOK rfl rfl rfl) rfl ?_
    refine sxk 1 tabOK rfl ?_
    refine aops_nil ?_
    refine ct_if hF rfl (fun hc hF => ?_) (fun hc hF => ?_)
    · refine at_skip ?_
      refine at_seq ?_
      refine at_block ?_
      refine at_seq ?_
      refine at_drawnM (id := 6) 8 (by kernel_rfl) (by kernel_rfl) ?_
      refine nx tabOK rfl ?_
      refine nx tabOK rfl ?_
      obtain ⟨x7, hn_x7, hF⟩ := bnd_some hF
      refine nv rfl (oc_addr cDat hn_x7 tabOK rfl rfl rfl rfl) rfl ?_
      refine nx tabOK rfl ?_
      refine nx tabOK rfl ?_
      refine nx tabOK rfl ?_
      obtain ⟨x8, hn_x8, hF⟩ := bnd_some hF
      refine nv rfl (oc_addr cDat hn_x8 tabOK rfl rfl rfl rfl) rfl ?_
      refine nx tabOK rfl ?_
      refine dn_nil rfl ?_
      obtain ⟨x9, hx9, hF⟩ := bnd_some hF
      refine call_eq (h_w_eqDatum x7 x8 x9 hx9) rfl ((rlL_cons (cDat.rl_agg (l := 0) (l' := 0) _ x7 rfl) (rlL_cons (cDat.rl_agg (l := 0) (l' := 0) _ x8 rfl) rlL_nil))) rfl rfl ?_
      refine sxk 1 tabOK rfl ?_
      refine aops_nil ?_
      refine ct_bn hF rfl (fun hc hF => ?_) (fun hc hF => ?_)
      · refine at_seq ?_
        refine at_keep [] rfl ?_
        refine at_region ?_
        refine sxk 1 tabOK rfl ?_
        refine aops_nil ?_
        refine at_ret ?_
        refine bk_r ?_
        refine tk_r ?_
        refine ll_r ?_
        refine bk_r ?_
        refine tk_r ?_
        obtain rfl := Option.some.inj hF
        refine ret_le rfl ?_
        exact (vle_refl _)
      · refine at_skip ?_
        refine bk_n ?_
        refine at_keep [0, 1, 5] rfl ?_
        refine at_region ?_
        refine sxk 1 tabOK rfl ?_
        obtain ⟨hb, hF⟩ := chk_some hF
        refine s_add tabOK rfl rfl rfl hb rfl ?_
        refine sxk 1 tabOK rfl ?_
        refine aops_nil ?_
        exact arr_loop ⟨(i5 + 1), hF, (le_down (down_all (ee_cons rfl rfl (cDat.ok_psl _ rfl) (ee_cons rfl rfl (cDat.ok_psl _ rfl) (ee_cons rfl rfl rfl ee_nil))) he_nil rfl rfl rfl rfl))⟩
    · refine at_exit ?_
      refine tk_x ?_
      refine ll_x ?_
      refine bk_hit ?_
      refine at_seq ?_
      refine at_keep [] rfl ?_
      refine at_region ?_
      refine sxk 1 tabOK rfl ?_
      refine aops_nil ?_
      refine at_ret ?_
      obtain rfl := Option.some.inj hF
      refine ret_le rfl ?_
      exact (vle_refl _)

theorem w_eqDatum_all (n : Nat) : (∀ (a : PDat) (b : PDat) (q : Bool), w_eqDatum n a b = some q → FC Try.prog 37 [.agg (cDat.row 0 a), .agg (cDat.row 0 b)] [] 3 (fun x _ => x = .bool q)) ∧ (∀ (a : List PDat) (b : List PDat) (q : Bool), w_eqDatumS n a b = some q → FC Try.prog 77 [.psl 0 4 (a.map (cDat.enc 0)), .psl 0 4 (b.map (cDat.enc 0))] [] 3 (fun x _ => x = .bool q)) := by
  induction n with
  | zero => exact ⟨(fun _ _ q h => by cases h), (fun _ _ q h => by cases h)⟩
  | succ n ih => exact ⟨fun a b q h => w_eqDatum_bok (w_eqDatum n) (w_eqDatumS n) ih.1 ih.2 a b q h, fun a b q h => w_eqDatumS_bok (w_eqDatum n) (w_eqDatumS n) ih.1 ih.2 a b q h⟩

theorem w_eqDatum_ok (n : Nat) (a : PDat) (b : PDat) (q : Bool) (hF : w_eqDatum n a b = some q) : FC Try.prog 37 [.agg (cDat.row 0 a), .agg (cDat.row 0 b)] [] 3 (fun x _ => x = .bool q) := (w_eqDatum_all n).1 a b q hF

theorem w_eqDatumS_ok (n : Nat) (a : List PDat) (b : List PDat) (q : Bool) (hF : w_eqDatumS n a b = some q) : FC Try.prog 77 [.psl 0 4 (a.map (cDat.enc 0)), .psl 0 4 (b.map (cDat.enc 0))] [] 3 (fun x _ => x = .bool q) := (w_eqDatum_all n).2 a b q hF

theorem w_toValue_ok (a : PVal) (q : PVal) (hF : w_toValue a = some q) : FC Try.prog 21 [.agg (cVal.row 0 a)] [] 3 (fun x _ => x = .agg (cVal.row 1 q)) := by
  refine FC.of_le ?_
  refine fc_body tabOK Try.func21 rfl Try.ntmps21 rfl rfl rfl ?_
  unfold w_toValue at hF
  refine at_seq ?_
  refine at_region ?_
  refine sxk 2 tabOK rfl ?_
  refine aops_nil ?_
  refine at_seq ?_
  refine at_region ?_
  refine sxk 1 tabOK rfl ?_
  refine aops_nil ?_
  refine at_seq ?_
  refine at_region ?_
  refine sxk 4 tabOK rfl ?_
  refine aops_nil ?_
  refine at_seq ?_
  refine at_region ?_
  refine sxk 4 tabOK rfl ?_
  refine aops_nil ?_
  refine at_seq ?_
  refine at_keep [1, 2, 3] rfl ?_
  refine at_region ?_
  refine sxk 4 tabOK rfl ?_
  refine aops_nil ?_
  refine at_seq ?_
  refine at_region ?_
  refine sxk 2 tabOK rfl ?_
  refine aops_nil ?_
  refine at_ret ?_
  obtain rfl := Option.some.inj hF
  refine ret_le rfl ?_
  exact (vle_refl _)

theorem w_toPair_ok (a : PPair) (q : PPair) (hF : w_toPair a = some q) : FC Try.prog 60 [.agg (cPair.row 0 a)] [] 3 (fun x _ => x = .agg (cPair.row 1 q)) := by
  refine FC.of_le ?_
  refine fc_body tabOK Try.func60 rfl Try.ntmps60 rfl rfl rfl ?_
  unfold w_toPair at hF
  refine at_seq ?_
  refine at_region ?_
  refine sxk 2 tabOK rfl ?_
  refine aops_nil ?_
  refine at_seq ?_
  refine at_region ?_
  refine sxk 1 tabOK rfl ?_
  refine aops_nil ?_
  refine at_seq ?_
  refine at_region ?_
  refine sxk 2 tabOK rfl ?_
  obtain ⟨x2, hx2, hF⟩ := bnd_some hF
  refine call_eq (w_toValue_ok a.h x2 hx2) rfl ((rlL_cons (cVal.rl_agg (l := 0) (l' := 0) _ a.h rfl) rlL_nil)) (cVal.rl_agg (l := 1) (l' := 1) _ x2 rfl) rfl ?_
  refine sxk 2 tabOK rfl ?_
  refine aops_nil ?_
  refine at_seq ?_
  refine at_region ?_
  refine sxk 2 tabOK rfl ?_
  obtain ⟨x3, hx3, hF⟩ := bnd_some hF
  refine call_eq (w_toValue_ok a.t x3 hx3) rfl ((rlL_cons (cVal.rl_agg (l := 0) (l' := 0) _ a.t rfl) rlL_nil)) (cVal.rl_agg (l := 1) (l' := 1) _ x3 rfl) rfl ?_
  refine sxk 2 tabOK rfl ?_
  refine aops_nil ?_
  refine at_seq ?_
  refine at_keep [2, 3] rfl ?_
  refine at_region ?_
  refine sxk 2 tabOK rfl ?_
  refine aops_nil ?_
  refine at_ret ?_
  obtain rfl := Option.some.inj hF
  refine ret_le rfl ?_
  exact (vle_refl _)

theorem w_toPairS_ok (a : List PPair) (q : List PPair) (hF : w_toPairS a = some q) : FC Try.prog 16 [.psl 0 6 (a.map (cPair.enc 0))] [] 3 (fun x _ => x = .psl 1 6 (q.map (cPair.enc 1))) := by
  refine FC.of_le ?_
  refine fc_body tabOK Try.func16 rfl Try.ntmps16 rfl rfl rfl ?_
  unfold w_toPairS at hF
  refine at_seq ?_
  refine at_region ?_
  refine sxk 1 tabOK rfl ?_
  refine aops_nil ?_
  refine at_seq ?_
  refine at_region ?_
  refine sxk 1 tabOK rfl ?_
  refine sv rfl (oc_len cPair tabOK rfl rfl rfl) rfl ?_
  obtain ⟨hb, hF⟩ := chk_some hF
  refine sc_make cPair (l := 0) (v := ((PPair.mk (PVal.mk 0 0 ([] : List UInt8)) (PVal.mk 0 0 ([] : List UInt8))) : PPair)) hb tabOK rfl rfl rfl rfl (vleL_refl _) rfl rfl rfl rfl ?_
  refine sxk 1 tabOK rfl ?_
  refine aops_nil ?_
  refine at_seq ?_
  refine at_seq ?_
  refine at_region ?_
  refine sxk 1 tabOK rfl ?_
  refine aops_nil ?_
  refine at_block ?_
  refine cl_loop (σ := Int × List PPair) (fun v => match v with | (i2, out3) => ⟨[(0, .psl 0 6 (a.map (cPair.enc 0))), (3, .hsl 3 0 out3.length), (4, .int .i64 i2)], [(3, ⟨6, out3.map (cPair.enc 0)⟩)], 4, 23, []⟩) (w_toPairS_L1 a) LF (0, (List.replicate (a.length : Int).toNat ((PPair.mk (PVal.mk 0 0 ([] : List UInt8)) (PVal.mk 0 0 ([] : List UInt8))) : PPair))) hF (le_down (down_all (ee_cons rfl rfl (cPair.ok_psl _ rfl) (ee_cons rfl rfl (Nat.le_of_ble_eq_true rfl) (ee_cons rfl rfl rfl ee_nil))) (he_cons rfl rfl rfl (cPair.rows_ok _ rfl) he_nil) rfl rfl rfl rfl)) ?_
  rintro lk_ ⟨i2, out3⟩ hF
  refine at_eq (s' := ⟨[(0, .psl 0 6 (a.map (cPair.enc 0))), (3, .hsl 3 0 out3.length), (4, .int .i64 i2)], [(3, ⟨6, out3.map (cPair.enc 0)⟩)], 4, 23, []⟩) rfl ?_
  replace hF : w_toPairS_L1b a (itr (w_toPairS_L1 a) lk_) i2 out3 = some q := hF
  unfold w_toPairS_L1b at hF
  generalize itr (w_toPairS_L1 a) lk_ = go4 at hF ⊢
  refine at_seq ?_
  refine at_seq ?_
  refine at_region ?_
  refine sxk 2 tabOK rfl ?_
  refine sv rfl (oc_len cPair tabOK rfl rfl rfl) rfl ?_
  refine sxk 1 tabOK rfl ?_
  refine aops_nil ?_
  refine ct_if hF rfl (fun hc hF => ?_) (fun hc hF => ?_)
  · refine at_skip ?_
    refine at_seq ?_
    refine at_block ?_
    refine at_region ?_
    refine sxk 4 tabOK rfl ?_
    obtain ⟨x5, hn_x5, hF⟩ := bnd_some hF
    refine sv rfl (oc_addr cPair hn_x5 tabOK rfl rfl rfl rfl) rfl ?_
    refine sxk 1 tabOK rfl ?_
    obtain ⟨x6, hx6, hF⟩ := bnd_some hF
    refine call_eq (w_toPair_ok x5 x6 hx6) rfl ((rlL_cons (cPair.rl_agg (l := 0) (l' := 0) _ x5 rfl) rlL_nil)) (cPair.rl_agg (l := 1) (l' := 1) _ x6 rfl) rfl ?_
    obtain ⟨x7, hn_x7, hF⟩ := bnd_some hF
    refine sv rfl (oc_haddr cPair hn_x7 tabOK rfl rfl rfl rfl) rfl ?_
    refine sc_store cPair (v' := x6) hn_x7 tabOK rfl rfl rfl rfl rfl rfl rfl rfl ?_
    refine ops_le (le_slot (y := .hsl 3 0 (out3.set i2.toNat x6).length) 3 rfl (vle_eq (congrArg (V.hsl 3 0) (by simp))) rfl) ?_
    refine aops_nil ?_
    refine bk_n ?_
    refine at_keep [0, 3, 4] rfl ?_
    refine at_region ?_
    refine sxk 1 tabOK rfl ?_
    obtain ⟨hb, hF⟩ := chk_some hF
    refine s_add tabOK rfl rfl rfl hb rfl ?_
    refine sxk 1 tabOK rfl ?_
    refine aops_nil ?_
    exact arr_loop ⟨((i2 + 1), (out3.set i2.toNat x6)), hF, (le_down (down_all (ee_cons rfl rfl (cPair.ok_psl _ rfl) (ee_cons rfl rfl (Nat.le_of_ble_eq_true rfl) (ee_cons rfl rfl rfl ee_nil))) (he_cons rfl rfl rfl (cPair.rows_ok _ rfl) he_nil) rfl rfl rfl rfl))⟩
  · refine at_exit ?_
    refine tk_x ?_
    refine ll_x ?_
    refine bk_hit ?_
    refine at_seq ?_
    refine at_region ?_
    refine sxk 2 tabOK rfl ?_
    refine aops_nil ?_
    refine at_le (le_freeze 2 rfl rfl (by simp) rfl) ?_
    refine at_ret ?_
    obtain rfl := Option.some.inj hF
    refine ret_le rfl ?_
    exact (vle_refl _)

theorem w_toDatum_bok (w_toDatum : PDat → Option PDat) (w_toDatumS : List PDat → Option (List PDat)) (h_w_toDatum : ∀ (a : PDat) (q : PDat), w_toDatum a = some q → FC Try.prog 35 [.agg (cDat.row 0 a)] [] 3 (fun x _ => x = .agg (cDat.row 1 q))) (h_w_toDatumS : ∀ (a : List PDat) (q : List PDat), w_toDatumS a = some q → FC Try.prog 73 [.psl 0 4 (a.map (cDat.enc 0))] [] 3 (fun x _ => x = .psl 1 4 (q.map (cDat.enc 1)))) (a : PDat) (q : PDat) (hF : w_toDatum_b w_toDatum w_toDatumS a = some q) : FC Try.prog 35 [.agg (cDat.row 0 a)] [] 3 (fun x _ => x = .agg (cDat.row 1 q)) := by
  refine FC.of_le ?_
  refine fc_body tabOK Try.func35 rfl Try.ntmps35 rfl rfl rfl ?_
  unfold w_toDatum_b at hF
  refine at_seq ?_
  refine at_region ?_
  refine sxk 2 tabOK rfl ?_
  refine aops_nil ?_
  refine at_seq ?_
  refine at_region ?_
  refine sxk 1 tabOK rfl ?_
  refine aops_nil ?_
  refine at_seq ?_
  refine at_region ?_
  refine sxk 4 tabOK rfl ?_
  refine aops_nil ?_
  refine at_seq ?_
  refine at_region ?_
  refine sxk 4 tabOK rfl ?_
  refine aops_nil ?_
  refine at_seq ?_
  refine at_keep [1, 2, 3] rfl ?_
  refine at_region ?_
  refine sxk 4 tabOK rfl ?_
  refine aops_nil ?_
  refine at_seq ?_
  refine at_region ?_
  refine sxk 2 tabOK rfl ?_
  obtain ⟨x4, hx4, hF⟩ := bnd_some hF
  refine call_eq (h_w_toDatumS a.items x4 hx4) rfl ((rlL_cons (cDat.rl_psl (l := 0) (l' := 0) _ a.items rfl) rlL_nil)) (cDat.rl_psl (l := 1) (l' := 1) _ x4 rfl) rfl ?_
  refine sxk 2 tabOK rfl ?_
  refine aops_nil ?_
  refine at_seq ?_
  refine at_keep [2, 3] rfl ?_
  refine at_region ?_
  refine sxk 2 tabOK rfl ?_
  refine aops_nil ?_
  refine at_ret ?_
  obtain rfl := Option.some.inj hF
  refine ret_le rfl ?_
  exact (vle_refl _)

theorem w_toDatumS_bok (w_toDatum : PDat → Option PDat) (w_toDatumS : List PDat → Option (List PDat)) (h_w_toDatum : ∀ (a : PDat) (q : PDat), w_toDatum a = some q → FC Try.prog 35 [.agg (cDat.row 0 a)] [] 3 (fun x _ => x = .agg (cDat.row 1 q))) (h_w_toDatumS : ∀ (a : List PDat) (q : List PDat), w_toDatumS a = some q → FC Try.prog 73 [.psl 0 4 (a.map (cDat.enc 0))] [] 3 (fun x _ => x = .psl 1 4 (q.map (cDat.enc 1)))) (a : List PDat) (q : List PDat) (hF : w_toDatumS_b w_toDatum w_toDatumS a = some q) : FC Try.prog 73 [.psl 0 4 (a.map (cDat.enc 0))] [] 3 (fun x _ => x = .psl 1 4 (q.map (cDat.enc 1))) := by
  refine FC.of_le ?_
  refine fc_body tabOK Try.func73 rfl Try.ntmps73 rfl rfl rfl ?_
  unfold w_toDatumS_b at hF
  refine at_seq ?_
  refine at_region ?_
  refine sxk 1 tabOK rfl ?_
  refine aops_nil ?_
  refine at_seq ?_
  refine at_region ?_
  refine sxk 1 tabOK rfl ?_
  refine sv rfl (oc_len cDat tabOK rfl rfl rfl) rfl ?_
  obtain ⟨hb, hF⟩ := chk_some hF
  refine sc_make cDat (l := 1) (v := ((PDat.mk 0 0 ([] : List UInt8) []) : PDat)) hb tabOK rfl rfl rfl rfl (.cons (vle_refl _) (.cons (vle_refl _) (.cons (vle_refl _) (.cons (vle_nil _ _) .nil)))) rfl rfl rfl rfl ?_
  refine sxk 1 tabOK rfl ?_
  refine aops_nil ?_
  refine at_seq ?_
  refine at_seq ?_
  refine at_region ?_
  refine sxk 1 tabOK rfl ?_
  refine aops_nil ?_
  refine at_block ?_
  refine cl_loop (σ := Int × List PDat) (fun v => match v with | (i4, out5) => ⟨[(0, .psl 0 4 (a.map (cDat.enc 0))), (3, .hsl 3 0 out5.length), (4, .int .i64 i4)], [(3, ⟨4, out5.map (cDat.enc 1)⟩)], 4, 23, []⟩) (w_toDatumS_L1 w_toDatum a) LF (0, (List.replicate (a.length : Int).toNat ((PDat.mk 0 0 ([] : List UInt8) []) : PDat))) hF (le_down (down_all (ee_cons rfl rfl (cDat.ok_psl _ rfl) (ee_cons rfl rfl (Nat.le_of_ble_eq_true rfl) (ee_cons rfl rfl rfl ee_nil))) (he_cons rfl rfl rfl (cDat.rows_ok _ rfl) he_nil) rfl rfl rfl rfl)) ?_
  rintro lk_ ⟨i4, out5⟩ hF
  refine at_eq (s' := ⟨[(0, .psl 0 4 (a.map (cDat.enc 0))), (3, .hsl 3 0 out5.length), (4, .int .i64 i4)], [(3, ⟨4, out5.map (cDat.enc 1)⟩)], 4, 23, []⟩) rfl ?_
  replace hF : w_toDatumS_L1b w_toDatum a (itr (w_toDatumS_L1 w_toDatum a) lk_) i4 out5 = some q := hF
  unfold w_toDatumS_L1b at hF
  generalize itr (w_toDatumS_L1 w_toDatum a) lk_ = go6 at hF ⊢
  refine at_seq ?_
  refine at_seq ?_
  refine at_region ?_
  refine sxk 2 tabOK rfl ?_
  refine sv rfl (oc_len cDat tabOK rfl rfl rfl) rfl ?_
  refine sxk 1 tabOK rfl ?_
  refine aops_nil ?_
  refine ct_if hF rfl (fun hc hF => ?_) (fun hc hF => ?_)
  · refine at_skip ?_
    refine at_seq ?_
    refine at_block ?_
    refine at_region ?_
    refine sxk 4 tabOK rfl ?_
    obtain ⟨x7, hn_x7, hF⟩ := bnd_some hF
    refine sv rfl (oc_addr cDat hn_x7 tabOK rfl rfl rfl rfl) rfl ?_
    refine sxk 1 tabOK rfl ?_
    obtain ⟨x8, hx8, hF⟩ := bnd_some hF
    refine call_eq (h_w_toDatum x7 x8 hx8) rfl ((rlL_cons (cDat.rl_agg (l := 0) (l' := 0) _ x7 rfl) rlL_nil)) (cDat.rl_agg (l := 1) (l' := 1) _ x8 rfl) rfl ?_
    obtain ⟨x9, hn_x9, hF⟩ := bnd_some hF
    refine sv rfl (oc_haddr cDat hn_x9 tabOK rfl rfl rfl rfl) rfl ?_
    refine sc_store cDat (v' := x8) hn_x9 tabOK rfl rfl rfl rfl rfl rfl rfl rfl ?_
    refine ops_le (le_slot (y := .hsl 3 0 (out5.set i4.toNat x8).length) 3 rfl (vle_eq (congrArg (V.hsl 3 0) (by simp))) rfl) ?_
    refine aops_nil ?_
    refine bk_n ?_
    refine at_keep [0, 3, 4] rfl ?_
    refine at_region ?_
    refine sxk 1 tabOK rfl ?_
    obtain ⟨hb, hF⟩ := chk_some hF
    refine s_add tabOK rfl rfl rfl hb rfl ?_
    refine sxk 1 tabOK rfl ?_
    refine aops_nil ?_
    exact arr_loop ⟨((i4 + 1), (out5.set i4.toNat x8)), hF, (le_down (down_all (ee_cons rfl rfl (cDat.ok_psl _ rfl) (ee_cons rfl rfl (Nat.le_of_ble_eq_true rfl) (ee_cons rfl rfl rfl ee_nil))) (he_cons rfl rfl rfl (cDat.rows_ok _ rfl) he_nil) rfl rfl rfl rfl))⟩
  · refine at_exit ?_
    refine tk_x ?_
    refine ll_x ?_
    refine bk_hit ?_
    refine at_seq ?_
    refine at_region ?_
    refine sxk 2 tabOK rfl ?_
    refine aops_nil ?_
    refine at_le (le_freeze 2 rfl rfl (by simp) rfl) ?_
    refine at_ret ?_
    obtain rfl := Option.some.inj hF
    refine ret_le rfl ?_
    exact (vle_refl _)

theorem w_toDatum_all (n : Nat) : (∀ (a : PDat) (q : PDat), w_toDatum n a = some q → FC Try.prog 35 [.agg (cDat.row 0 a)] [] 3 (fun x _ => x = .agg (cDat.row 1 q))) ∧ (∀ (a : List PDat) (q : List PDat), w_toDatumS n a = some q → FC Try.prog 73 [.psl 0 4 (a.map (cDat.enc 0))] [] 3 (fun x _ => x = .psl 1 4 (q.map (cDat.enc 1)))) := by
  induction n with
  | zero => exact ⟨(fun _ q h => by cases h), (fun _ q h => by cases h)⟩
  | succ n ih => exact ⟨fun a q h => w_toDatum_bok (w_toDatum n) (w_toDatumS n) ih.1 ih.2 a q h, fun a q h => w_toDatumS_bok (w_toDatum n) (w_toDatumS n) ih.1 ih.2 a q h⟩

theorem w_toDatum_ok (n : Nat) (a : PDat) (q : PDat) (hF : w_toDatum n a = some q) : FC Try.prog 35 [.agg (cDat.row 0 a)] [] 3 (fun x _ => x = .agg (cDat.row 1 q)) := (w_toDatum_all n).1 a q hF

theorem w_toDatumS_ok (n : Nat) (a : List PDat) (q : List PDat) (hF : w_toDatumS n a = some q) : FC Try.prog 73 [.psl 0 4 (a.map (cDat.enc 0))] [] 3 (fun x _ => x = .psl 1 4 (q.map (cDat.enc 1))) := (w_toDatum_all n).2 a q hF

theorem w_toDatum_bown (w_toDatum : PDat → Option PDat) (w_toDatumS : List PDat → Option (List PDat)) (h_w_toDatum : ∀ (a : PDat) (q : PDat), w_toDatum a = some q → FC Try.prog 35 [.agg (cDat.row 0 a)] [] 3 (fun x h2 => ∃ j, x = .agg [.int .i64 q.kind, .int .i64 q.number, .str q.text, .hsl j 0 q.items.length] ∧ hget h2 j = some ⟨4, q.items.map (cDat.enc 2)⟩)) (h_w_toDatumS : ∀ (a : List PDat) (q : List PDat), w_toDatumS a = some q → FC Try.prog 73 [.psl 0 4 (a.map (cDat.enc 0))] [] 3 (fun x h2 => ∃ j, x = .hsl j 0 q.length ∧ hget h2 j = some ⟨4, q.map (cDat.enc 2)⟩)) (a : PDat) (q : PDat) (hF : w_toDatum_b w_toDatum w_toDatumS a = some q) : FC Try.prog 35 [.agg (cDat.row 0 a)] [] 3 (fun x h2 => ∃ j, x = .agg [.int .i64 q.kind, .int .i64 q.number, .str q.text, .hsl j 0 q.items.length] ∧ hget h2 j = some ⟨4, q.items.map (cDat.enc 2)⟩) := by
  refine fc_body tabOK Try.func35 rfl Try.ntmps35 rfl rfl rfl ?_
  unfold w_toDatum_b at hF
  refine at_seq ?_
  refine at_region ?_
  refine sxk 2 tabOK rfl ?_
  refine aops_nil ?_
  refine at_seq ?_
  refine at_region ?_
  refine sxk 1 tabOK rfl ?_
  refine aops_nil ?_
  refine at_seq ?_
  refine at_region ?_
  refine sxk 4 tabOK rfl ?_
  refine aops_nil ?_
  refine at_seq ?_
  refine at_region ?_
  refine sxk 4 tabOK rfl ?_
  refine aops_nil ?_
  refine at_seq ?_
  refine at_keep [1, 2, 3] rfl ?_
  refine at_region ?_
  refine sxk 4 tabOK rfl ?_
  refine aops_nil ?_
  refine at_seq ?_
  refine at_region ?_
  refine sxk 2 tabOK rfl ?_
  obtain ⟨x4, hx4, hF⟩ := bnd_some hF
  refine call_o1 (h_w_toDatumS a.items x4 hx4) rfl (rdL_cons (rd_rl (cDat.rl_psl (l := 0) (l' := 0) _ a.items rfl)) rdL_nil) (Cd.rlR cDat f01 2 _) rfl (fun j => by simp [V.rnA, V.rnAL, V.rl, upJ, dn]) rfl ?_
  refine sxk 1 tabOK rfl ?_
  refine sc_storeH (one_hsl rfl (by simp)) tabOK rfl rfl rfl rfl rfl rfl rfl rfl rfl ?_
  refine aops_nil ?_
  refine at_seq ?_
  refine at_keep [2, 3] rfl ?_
  refine at_region ?_
  refine sxk 1 tabOK rfl ?_
  refine sc_storeX tabOK rfl rfl rfl rfl rfl (one_cons (one_v rfl) (one_cons (one_v rfl) (one_cons (one_v rfl) (one_cons (one_h rfl (by simp)) one_nil)))) rfl rfl rfl ?_
  refine aops_nil ?_
  refine at_ret ?_
  obtain rfl := Option.some.inj hF
  exact ⟨_, rfl, 6, rfl, rfl⟩

theorem w_toDatumS_bown (w_toDatum : PDat → Option PDat) (w_toDatumS : List PDat → Option (List PDat)) (h_w_toDatum : ∀ (a : PDat) (q : PDat), w_toDatum a = some q → FC Try.prog 35 [.agg (cDat.row 0 a)] [] 3 (fun x h2 => ∃ j, x = .agg [.int .i64 q.kind, .int .i64 q.number, .str q.text, .hsl j 0 q.items.length] ∧ hget h2 j = some ⟨4, q.items.map (cDat.enc 2)⟩)) (h_w_toDatumS : ∀ (a : List PDat) (q : List PDat), w_toDatumS a = some q → FC Try.prog 73 [.psl 0 4 (a.map (cDat.enc 0))] [] 3 (fun x h2 => ∃ j, x = .hsl j 0 q.length ∧ hget h2 j = some ⟨4, q.map (cDat.enc 2)⟩)) (a : List PDat) (q : List PDat) (hF : w_toDatumS_b w_toDatum w_toDatumS a = some q) : FC Try.prog 73 [.psl 0 4 (a.map (cDat.enc 0))] [] 3 (fun x h2 => ∃ j, x = .hsl j 0 q.length ∧ hget h2 j = some ⟨4, q.map (cDat.enc 2)⟩) := by
  refine fc_body tabOK Try.func73 rfl Try.ntmps73 rfl rfl rfl ?_
  unfold w_toDatumS_b at hF
  refine at_seq ?_
  refine at_region ?_
  refine sxk 1 tabOK rfl ?_
  refine aops_nil ?_
  refine at_seq ?_
  refine at_region ?_
  refine sxk 1 tabOK rfl ?_
  refine sv rfl (oc_len cDat tabOK rfl rfl rfl) rfl ?_
  obtain ⟨hb, hF⟩ := chk_some hF
  refine sc_make cDat (l := 2) (v := ((PDat.mk 0 0 ([] : List UInt8) []) : PDat)) hb tabOK rfl rfl rfl rfl (.cons (vle_refl _) (.cons (vle_refl _) (.cons (vle_refl _) (.cons (vle_nil _ _) .nil)))) rfl rfl rfl rfl ?_
  refine sxk 1 tabOK rfl ?_
  refine aops_nil ?_
  refine at_seq ?_
  refine at_seq ?_
  refine at_region ?_
  refine sxk 1 tabOK rfl ?_
  refine aops_nil ?_
  refine at_block ?_
  refine cl_loop (σ := Int × List PDat) (fun v => match v with | (i4, out5) => ⟨[(0, .psl 0 4 (a.map (cDat.enc 0))), (3, .hsl 3 0 out5.length), (4, .int .i64 i4)], [(3, ⟨4, out5.map (cDat.enc 2)⟩)], 4, 23, []⟩) (w_toDatumS_L1 w_toDatum a) LF (0, (List.replicate (a.length : Int).toNat ((PDat.mk 0 0 ([] : List UInt8) []) : PDat))) hF (le_down (down_all (ee_cons rfl rfl (cDat.ok_psl _ rfl) (ee_cons rfl rfl (Nat.le_of_ble_eq_true rfl) (ee_cons rfl rfl rfl ee_nil))) (he_cons rfl rfl rfl (cDat.rows_ok _ rfl) he_nil) rfl rfl rfl rfl)) ?_
  rintro lk_ ⟨i4, out5⟩ hF
  refine at_eq (s' := ⟨[(0, .psl 0 4 (a.map (cDat.enc 0))), (3, .hsl 3 0 out5.length), (4, .int .i64 i4)], [(3, ⟨4, out5.map (cDat.enc 2)⟩)], 4, 23, []⟩) rfl ?_
  replace hF : w_toDatumS_L1b w_toDatum a (itr (w_toDatumS_L1 w_toDatum a) lk_) i4 out5 = some q := hF
  unfold w_toDatumS_L1b at hF
  generalize itr (w_toDatumS_L1 w_toDatum a) lk_ = go6 at hF ⊢
  refine at_seq ?_
  refine at_seq ?_
  refine at_region ?_
  refine sxk 2 tabOK rfl ?_
  refine sv rfl (oc_len cDat tabOK rfl rfl rfl) rfl ?_
  refine sxk 1 tabOK rfl ?_
  refine aops_nil ?_
  refine ct_if hF rfl (fun hc hF => ?_) (fun hc hF => ?_)
  · refine at_skip ?_
    refine at_seq ?_
    refine at_block ?_
    refine at_region ?_
    refine sxk 4 tabOK rfl ?_
    obtain ⟨x7, hn_x7, hF⟩ := bnd_some hF
    refine sv rfl (oc_addr cDat hn_x7 tabOK rfl rfl rfl rfl) rfl ?_
    refine sxk 1 tabOK rfl ?_
    obtain ⟨x8, hx8, hF⟩ := bnd_some hF
    refine call_o1 (h_w_toDatum x7 x8 hx8) rfl (rdL_cons (rd_rl (cDat.rl_agg (l := 0) (l' := 0) _ x7 rfl)) rdL_nil) (Cd.rlR cDat f01 2 _) rfl (fun j => by simp [V.rnA, V.rnAL, V.rl, upJ, dn]) rfl ?_
    obtain ⟨x9, hn_x9, hF⟩ := bnd_some hF
    refine sv rfl (oc_haddr cDat hn_x9 tabOK rfl rfl rfl rfl) rfl ?_
    refine sc_storeXL cDat (l := 2) hn_x9 tabOK rfl rfl rfl rfl rfl (one_cons (one_v rfl) (one_cons (one_v rfl) (one_cons (one_v rfl) (one_cons (one_h rfl (by simp)) one_nil)))) rfl rfl rfl ?_
    refine ops_le (le_closeN 3 4 i4.toNat x8.items.length [.int .i64 x8.kind, .int .i64 x8.number, .str x8.text] [] rfl rfl rfl rfl rfl (len_map _ _) (cDat.atx _ hn_x9) (Cd.dps0 cDat 2 (fun _ => rfl) _) rfl rfl) ?_
    refine ops_le (le_rows 3 (rows' := (out5.set i4.toNat x8).map (cDat.enc 2)) rfl ((set_set' _ _ _ _).trans (cDat.setx out5 i4.toNat x8)) rfl) ?_
    refine ops_le (le_slot (y := .hsl 3 0 (out5.set i4.toNat x8).length) 3 rfl (vle_eq (congrArg (V.hsl 3 0) (by simp))) rfl) ?_
    refine aops_nil ?_
    refine bk_n ?_
    refine at_keep [0, 3, 4] rfl ?_
    refine at_region ?_
    refine sxk 1 tabOK rfl ?_
    obtain ⟨hb, hF⟩ := chk_some hF
    refine s_add tabOK rfl rfl rfl hb rfl ?_
    refine sxk 1 tabOK rfl ?_
    refine aops_nil ?_
    exact arr_loop ⟨((i4 + 1), (out5.set i4.toNat x8)), hF, (le_down (down_all (ee_cons rfl rfl (cDat.ok_psl _ rfl) (ee_cons rfl rfl (Nat.le_of_ble_eq_true rfl) (ee_cons rfl rfl rfl ee_nil))) (he_cons rfl rfl rfl (cDat.rows_ok _ rfl) he_nil) rfl rfl rfl rfl))⟩
  · refine at_exit ?_
    refine tk_x ?_
    refine ll_x ?_
    refine bk_hit ?_
    refine at_seq ?_
    refine at_region ?_
    refine sxk 2 tabOK rfl ?_
    refine aops_nil ?_
    refine at_ret ?_
    obtain rfl := Option.some.inj hF
    exact ⟨_, rfl, 3, rfl, rfl⟩

theorem w_toDatum_allown (n : Nat) : (∀ (a : PDat) (q : PDat), w_toDatum n a = some q → FC Try.prog 35 [.agg (cDat.row 0 a)] [] 3 (fun x h2 => ∃ j, x = .agg [.int .i64 q.kind, .int .i64 q.number, .str q.text, .hsl j 0 q.items.length] ∧ hget h2 j = some ⟨4, q.items.map (cDat.enc 2)⟩)) ∧ (∀ (a : List PDat) (q : List PDat), w_toDatumS n a = some q → FC Try.prog 73 [.psl 0 4 (a.map (cDat.enc 0))] [] 3 (fun x h2 => ∃ j, x = .hsl j 0 q.length ∧ hget h2 j = some ⟨4, q.map (cDat.enc 2)⟩)) := by
  induction n with
  | zero => exact ⟨(fun _ q h => by cases h), (fun _ q h => by cases h)⟩
  | succ n ih => exact ⟨fun a q h => w_toDatum_bown (w_toDatum n) (w_toDatumS n) ih.1 ih.2 a q h, fun a q h => w_toDatumS_bown (w_toDatum n) (w_toDatumS n) ih.1 ih.2 a q h⟩

theorem w_toDatum_own (n : Nat) (a : PDat) (q : PDat) (hF : w_toDatum n a = some q) : FC Try.prog 35 [.agg (cDat.row 0 a)] [] 3 (fun x h2 => ∃ j, x = .agg [.int .i64 q.kind, .int .i64 q.number, .str q.text, .hsl j 0 q.items.length] ∧ hget h2 j = some ⟨4, q.items.map (cDat.enc 2)⟩) := (w_toDatum_allown n).1 a q hF

theorem w_toDatumS_own (n : Nat) (a : List PDat) (q : List PDat) (hF : w_toDatumS n a = some q) : FC Try.prog 73 [.psl 0 4 (a.map (cDat.enc 0))] [] 3 (fun x h2 => ∃ j, x = .hsl j 0 q.length ∧ hget h2 j = some ⟨4, q.map (cDat.enc 2)⟩) := (w_toDatum_allown n).2 a q hF

theorem w_toPairS_own (a : List PPair) (q : List PPair) (hF : w_toPairS a = some q) : FC Try.prog 16 [.psl 0 6 (a.map (cPair.enc 0))] [] 3 (fun x h2 => ∃ j, x = .hsl j 0 q.length ∧ hget h2 j = some ⟨6, q.map (cPair.enc 0)⟩) := by
  refine fc_body tabOK Try.func16 rfl Try.ntmps16 rfl rfl rfl ?_
  unfold w_toPairS at hF
  refine at_seq ?_
  refine at_region ?_
  refine sxk 1 tabOK rfl ?_
  refine aops_nil ?_
  refine at_seq ?_
  refine at_region ?_
  refine sxk 1 tabOK rfl ?_
  refine sv rfl (oc_len cPair tabOK rfl rfl rfl) rfl ?_
  obtain ⟨hb, hF⟩ := chk_some hF
  refine sc_make cPair (l := 0) (v := ((PPair.mk (PVal.mk 0 0 ([] : List UInt8)) (PVal.mk 0 0 ([] : List UInt8))) : PPair)) hb tabOK rfl rfl rfl rfl (vleL_refl _) rfl rfl rfl rfl ?_
  refine sxk 1 tabOK rfl ?_
  refine aops_nil ?_
  refine at_seq ?_
  refine at_seq ?_
  refine at_region ?_
  refine sxk 1 tabOK rfl ?_
  refine aops_nil ?_
  refine at_block ?_
  refine cl_loop (σ := Int × List PPair) (fun v => match v with | (i2, out3) => ⟨[(0, .psl 0 6 (a.map (cPair.enc 0))), (3, .hsl 3 0 out3.length), (4, .int .i64 i2)], [(3, ⟨6, out3.map (cPair.enc 0)⟩)], 4, 23, []⟩) (w_toPairS_L1 a) LF (0, (List.replicate (a.length : Int).toNat ((PPair.mk (PVal.mk 0 0 ([] : List UInt8)) (PVal.mk 0 0 ([] : List UInt8))) : PPair))) hF (le_down (down_all (ee_cons rfl rfl (cPair.ok_psl _ rfl) (ee_cons rfl rfl (Nat.le_of_ble_eq_true rfl) (ee_cons rfl rfl rfl ee_nil))) (he_cons rfl rfl rfl (cPair.rows_ok _ rfl) he_nil) rfl rfl rfl rfl)) ?_
  rintro lk_ ⟨i2, out3⟩ hF
  refine at_eq (s' := ⟨[(0, .psl 0 6 (a.map (cPair.enc 0))), (3, .hsl 3 0 out3.length), (4, .int .i64 i2)], [(3, ⟨6, out3.map (cPair.enc 0)⟩)], 4, 23, []⟩) rfl ?_
  replace hF : w_toPairS_L1b a (itr (w_toPairS_L1 a) lk_) i2 out3 = some q := hF
  unfold w_toPairS_L1b at hF
  generalize itr (w_toPairS_L1 a) lk_ = go4 at hF ⊢
  refine at_seq ?_
  refine at_seq ?_
  refine at_region ?_
  refine sxk 2 tabOK rfl ?_
  refine sv rfl (oc_len cPair tabOK rfl rfl rfl) rfl ?_
  refine sxk 1 tabOK rfl ?_
  refine aops_nil ?_
  refine ct_if hF rfl (fun hc hF => ?_) (fun hc hF => ?_)
  · refine at_skip ?_
    refine at_seq ?_
    refine at_block ?_
    refine at_region ?_
    refine sxk 4 tabOK rfl ?_
    obtain ⟨x5, hn_x5, hF⟩ := bnd_some hF
    refine sv rfl (oc_addr cPair hn_x5 tabOK rfl rfl rfl rfl) rfl ?_
    refine sxk 1 tabOK rfl ?_
    obtain ⟨x6, hx6, hF⟩ := bnd_some hF
    refine call_eq (w_toPair_ok x5 x6 hx6) rfl ((rlL_cons (cPair.rl_agg (l := 0) (l' := 0) _ x5 rfl) rlL_nil)) (cPair.rl_agg (l := 1) (l' := 1) _ x6 rfl) rfl ?_
    obtain ⟨x7, hn_x7, hF⟩ := bnd_some hF
    refine sv rfl (oc_haddr cPair hn_x7 tabOK rfl rfl rfl rfl) rfl ?_
    refine sc_store cPair (v' := x6) hn_x7 tabOK rfl rfl rfl rfl rfl rfl rfl rfl ?_
    refine ops_le (le_slot (y := .hsl 3 0 (out3.set i2.toNat x6).length) 3 rfl (vle_eq (congrArg (V.hsl 3 0) (by simp))) rfl) ?_
    refine aops_nil ?_
    refine bk_n ?_
    refine at_keep [0, 3, 4] rfl ?_
    refine at_region ?_
    refine sxk 1 tabOK rfl ?_
    obtain ⟨hb, hF⟩ := chk_some hF
    refine s_add tabOK rfl rfl rfl hb rfl ?_
    refine sxk 1 tabOK rfl ?_
    refine aops_nil ?_
    exact arr_loop ⟨((i2 + 1), (out3.set i2.toNat x6)), hF, (le_down (down_all (ee_cons rfl rfl (cPair.ok_psl _ rfl) (ee_cons rfl rfl (Nat.le_of_ble_eq_true rfl) (ee_cons rfl rfl rfl ee_nil))) (he_cons rfl rfl rfl (cPair.rows_ok _ rfl) he_nil) rfl rfl rfl rfl))⟩
  · refine at_exit ?_
    refine tk_x ?_
    refine ll_x ?_
    refine bk_hit ?_
    refine at_seq ?_
    refine at_region ?_
    refine sxk 2 tabOK rfl ?_
    refine aops_nil ?_
    refine at_ret ?_
    obtain rfl := Option.some.inj hF
    exact ⟨_, rfl, 3, rfl, rfl⟩

theorem w_markPairS_ok (a : List PPair) (k : Int) (q : Int × List PPair) (hF : w_markPairS a k = some q) : FC Try.prog 39 [.hsl 0 0 a.length, .int .i64 k] [(0, ⟨6, a.map (cPair.enc 0)⟩)] 3 (fun x h2 => x = .int .i64 q.1 ∧ hget h2 0 = some ⟨6, q.2.map (cPair.enc 0)⟩) := by
  refine FC.of_le_lent ?_
  refine fc_body tabOK Try.func39 rfl Try.ntmps39 rfl rfl rfl ?_
  unfold w_markPairS at hF
  refine at_seq ?_
  refine at_region ?_
  refine sxk 1 tabOK rfl ?_
  refine aops_nil ?_
  refine at_seq ?_
  refine at_seq ?_
  refine at_region ?_
  refine sxk 1 tabOK rfl ?_
  refine aops_nil ?_
  refine at_block ?_
  refine cl_loop (σ := Int × Int × List PPair) (fun v => match v with | (k3, i4, a5) => ⟨[(0, .hsl 0 0 a5.length), (1, .int .i64 k3), (5, .int .i64 i4)], [(0, ⟨6, a5.map (cPair.enc 0)⟩)], 3, 63, []⟩) w_markPairS_L1 LF (k, 0, a) hF (le_down (down_all (ee_cons rfl rfl (Nat.le_of_ble_eq_true rfl) (ee_cons rfl rfl rfl (ee_cons rfl rfl rfl ee_nil))) (he_cons rfl rfl rfl (cPair.rows_ok _ rfl) he_nil) rfl rfl rfl rfl)) ?_
  rintro lk_ ⟨k3, i4, a5⟩ hF
  refine at_eq (s' := ⟨[(0, .hsl 0 0 a5.length), (1, .int .i64 k3), (5, .int .i64 i4)], [(0, ⟨6, a5.map (cPair.enc 0)⟩)], 3, 63, []⟩) rfl ?_
  replace hF : w_markPairS_L1b (itr w_markPairS_L1 lk_) k3 i4 a5 = some q := hF
  unfold w_markPairS_L1b at hF
  generalize itr w_markPairS_L1 lk_ = go6 at hF ⊢
  refine at_seq ?_
  refine at_seq ?_
  refine at_region ?_
  refine sxk 2 tabOK rfl ?_
  refine sv rfl (oc_hlen cPair tabOK rfl rfl rfl) rfl ?_
  refine sxk 1 tabOK rfl ?_
  refine aops_nil ?_
  refine ct_if hF rfl (fun hc hF => ?_) (fun hc hF => ?_)
  · refine at_skip ?_
    refine at_seq ?_
    refine at_block ?_
    refine at_seq ?_
    refine at_region ?_
    refine sxk 3 tabOK rfl ?_
    obtain ⟨x7, hn_x7, hF⟩ := bnd_some hF
    refine sv rfl (oc_haddr cPair hn_x7 tabOK rfl rfl rfl rfl) rfl ?_
    refine sv rfl (oc_hfield tabOK rfl rfl rfl rfl (by simp)) rfl ?_
    refine sv rfl (oc_hfield tabOK rfl rfl rfl rfl (by simp)) rfl ?_
    refine sc_store cPair (v' := (PPair.mk (PVal.mk k3 x7.h.number x7.h.text) x7.t)) hn_x7 tabOK rfl rfl rfl rfl rfl rfl rfl rfl ?_
    refine ops_le (le_slot (y := .hsl 0 0 (a5.set i4.toNat (PPair.mk (PVal.mk k3 x7.h.number x7.h.text) x7.t)).length) 0 rfl (vle_eq (congrArg (V.hsl 0 0) (by simp))) rfl) ?_
    refine aops_nil ?_
    refine at_seq ?_
    refine at_keep [0, 1, 5] rfl ?_
    refine at_region ?_
    refine sxk 1 tabOK rfl ?_
    obtain ⟨hb, hF⟩ := chk_some hF
    refine s_add tabOK rfl rfl rfl hb rfl ?_
    refine sxk 1 tabOK rfl ?_
    refine aops_nil ?_
    refine at_seq ?_
    refine at_region ?_
    refine sxk 3 tabOK rfl ?_
    obtain ⟨x8, hn_x8, hF⟩ := bnd_some hF
    refine sv rfl (oc_haddr cPair hn_x8 tabOK rfl rfl rfl rfl) rfl ?_
    refine sv rfl (oc_hfield tabOK rfl rfl rfl rfl (by simp)) rfl ?_
    refine sv rfl (oc_hfield tabOK rfl rfl rfl rfl (by simp)) rfl ?_
    refine sc_store cPair (v' := (PPair.mk (PVal.mk x8.h.kind (k3 + 1) x8.h.text) x8.t)) hn_x8 tabOK rfl rfl rfl rfl rfl rfl rfl rfl ?_
    refine ops_le (le_slot (y := .hsl 0 0 ((a5.set i4.toNat (PPair.mk (PVal.mk k3 x7.h.number x7.h.text) x7.t)).set i4.toNat (PPair.mk (PVal.mk x8.h.kind (k3 + 1) x8.h.text) x8.t)).length) 0 rfl (vle_eq (congrArg (V.hsl 0 0) (by simp))) rfl) ?_
    refine aops_nil ?_
    refine at_seq ?_
    refine at_keep [0, 1, 5] rfl ?_
    refine at_region ?_
    refine sxk 1 tabOK rfl ?_
    obtain ⟨hb, hF⟩ := chk_some hF
    refine s_add tabOK rfl rfl rfl hb rfl ?_
    refine sxk 1 tabOK rfl ?_
    refine aops_nil ?_
    refine at_seq ?_
    refine at_region ?_
    refine sxk 3 tabOK rfl ?_
    obtain ⟨x9, hx9, hF⟩ := bnd_some hF
    refine call_eq (w_markText_ok ((k3 + 1) + 1) x9 hx9) rfl ((rlL_cons (rfl) rlL_nil)) rfl rfl ?_
    obtain ⟨x10, hn_x10, hF⟩ := bnd_some hF
    refine sv rfl (oc_haddr cPair hn_x10 tabOK rfl rfl rfl rfl) rfl ?_
    refine sv rfl (oc_hfield tabOK rfl rfl rfl rfl (by simp)) rfl ?_
    refine sv rfl (oc_hfield tabOK rfl rfl rfl rfl (by simp)) rfl ?_
    refine sc_store cPair (v' := (PPair.mk (PVal.mk x10.h.kind x10.h.number x9) x10.t)) hn_x10 tabOK rfl rfl rfl rfl rfl rfl rfl rfl ?_
    refine ops_le (le_slot (y := .hsl 0 0 (((a5.set i4.toNat (PPair.mk (PVal.mk k3 x7.h.number x7.h.text) x7.t)).set i4.toNat (PPair.mk (PVal.mk x8.h.kind (k3 + 1) x8.h.text) x8.t)).set i4.toNat (PPair.mk (PVal.mk x10.h.kind x10.h.number x9) x10.t)).length) 0 rfl (vle_eq (congrArg (V.hsl 0 0) (by simp))) rfl) ?_
    refine aops_nil ?_
    refine at_seq ?_
    refine at_keep [0, 1, 5] rfl ?_
    refine at_region ?_
    refine sxk 1 tabOK rfl ?_
    obtain ⟨hb, hF⟩ := chk_some hF
    refine s_add tabOK rfl rfl rfl hb rfl ?_
    refine sxk 1 tabOK rfl ?_
    refine aops_nil ?_
    refine at_seq ?_
    refine at_region ?_
    refine sxk 3 tabOK rfl ?_
    obtain ⟨x11, hn_x11, hF⟩ := bnd_some hF
    refine sv rfl (oc_haddr cPair hn_x11 tabOK rfl rfl rfl rfl) rfl ?_
    refine sv rfl (oc_hfield tabOK rfl rfl rfl rfl (by simp)) rfl ?_
    refine sv rfl (oc_hfield tabOK rfl rfl rfl rfl (by simp)) rfl ?_
    refine sc_store cPair (v' := (PPair.mk x11.h (PVal.mk (((k3 + 1) + 1) + 1) x11.t.number x11.t.text))) hn_x11 tabOK rfl rfl rfl rfl rfl rfl rfl rfl ?_
    refine ops_le (le_slot (y := .hsl 0 0 ((((a5.set i4.toNat (PPair.mk (PVal.mk k3 x7.h.number x7.h.text) x7.t)).set i4.toNat (PPair.mk (PVal.mk x8.h.kind (k3 + 1) x8.h.text) x8.t)).set i4.toNat (PPair.mk (PVal.mk x10.h.kind x10.h.number x9) x10.t)).set i4.toNat (PPair.mk x11.h (PVal.mk (((k3 + 1) + 1) + 1) x11.t.number x11.t.text))).length) 0 rfl (vle_eq (congrArg (V.hsl 0 0) (by simp))) rfl) ?_
    refine aops_nil ?_
    refine at_seq ?_
    refine at_keep [0, 1, 5] rfl ?_
    refine at_region ?_
    refine sxk 1 tabOK rfl ?_
    obtain ⟨hb, hF⟩ := chk_some hF
    refine s_add tabOK rfl rfl rfl hb rfl ?_
    refine sxk 1 tabOK rfl ?_
    refine aops_nil ?_
    refine at_seq ?_
    refine at_region ?_
    refine sxk 3 tabOK rfl ?_
    obtain ⟨x12, hn_x12, hF⟩ := bnd_some hF
    refine sv rfl (oc_haddr cPair hn_x12 tabOK rfl rfl rfl rfl) rfl ?_
    refine sv rfl (oc_hfield tabOK rfl rfl rfl rfl (by simp)) rfl ?_
    refine sv rfl (oc_hfield tabOK rfl rfl rfl rfl (by simp)) rfl ?_
    refine sc_store cPair (v' := (PPair.mk x12.h (PVal.mk x12.t.kind ((((k3 + 1) + 1) + 1) + 1) x12.t.text))) hn_x12 tabOK rfl rfl rfl rfl rfl rfl rfl rfl ?_
    refine ops_le (le_slot (y := .hsl 0 0 (((((a5.set i4.toNat (PPair.mk (PVal.mk k3 x7.h.number x7.h.text) x7.t)).set i4.toNat (PPair.mk (PVal.mk x8.h.kind (k3 + 1) x8.h.text) x8.t)).set i4.toNat (PPair.mk (PVal.mk x10.h.kind x10.h.number x9) x10.t)).set i4.toNat (PPair.mk x11.h (PVal.mk (((k3 + 1) + 1) + 1) x11.t.number x11.t.text))).set i4.toNat (PPair.mk x12.h (PVal.mk x12.t.kind ((((k3 + 1) + 1) + 1) + 1) x12.t.text))).length) 0 rfl (vle_eq (congrArg (V.hsl 0 0) (by simp))) rfl) ?_
    refine aops_nil ?_
    refine at_seq ?_
    refine at_keep [0, 1, 5] rfl ?_
    refine at_region ?_
    refine sxk 1 tabOK rfl ?_
    obtain ⟨hb, hF⟩ := chk_some hF
    refine s_add tabOK rfl rfl rfl hb rfl ?_
    refine sxk 1 tabOK rfl ?_
    refine aops_nil ?_
    refine at_seq ?_
    refine at_region ?_
    refine sxk 3 tabOK rfl ?_
    obtain ⟨x13, hx13, hF⟩ := bnd_some hF
    refine call_eq (w_markText_ok (((((k3 + 1) + 1) + 1) + 1) + 1) x13 hx13) rfl ((rlL_cons (rfl) rlL_nil)) rfl rfl ?_
    obtain ⟨x14, hn_x14, hF⟩ := bnd_some hF
    refine sv rfl (oc_haddr cPair hn_x14 tabOK rfl rfl rfl rfl) rfl ?_
    refine sv rfl (oc_hfield tabOK rfl rfl rfl rfl (by simp)) rfl ?_
    refine sv rfl (oc_hfield tabOK rfl rfl rfl rfl (by simp)) rfl ?_
    refine sc_store cPair (v' := (PPair.mk x14.h (PVal.mk x14.t.kind x14.t.number x13))) hn_x14 tabOK rfl rfl rfl rfl rfl rfl rfl rfl ?_
    refine ops_le (le_slot (y := .hsl 0 0 ((((((a5.set i4.toNat (PPair.mk (PVal.mk k3 x7.h.number x7.h.text) x7.t)).set i4.toNat (PPair.mk (PVal.mk x8.h.kind (k3 + 1) x8.h.text) x8.t)).set i4.toNat (PPair.mk (PVal.mk x10.h.kind x10.h.number x9) x10.t)).set i4.toNat (PPair.mk x11.h (PVal.mk (((k3 + 1) + 1) + 1) x11.t.number x11.t.text))).set i4.toNat (PPair.mk x12.h (PVal.mk x12.t.kind ((((k3 + 1) + 1) + 1) + 1) x12.t.text))).set i4.toNat (PPair.mk x14.h (PVal.mk x14.t.kind x14.t.number x13))).length) 0 rfl (vle_eq (congrArg (V.hsl 0 0) (by simp))) rfl) ?_
    refine aops_nil ?_
    refine at_keep [0, 1, 5] rfl ?_
    refine at_region ?_
    refine sxk 1 tabOK rfl ?_
    obtain ⟨hb, hF⟩ := chk_some hF
    refine s_add tabOK rfl rfl rfl hb rfl ?_
    refine sxk 1 tabOK rfl ?_
    refine aops_nil ?_
    refine bk_n ?_
    refine at_region ?_
    refine sxk 1 tabOK rfl ?_
    obtain ⟨hb, hF⟩ := chk_some hF
    refine s_add tabOK rfl rfl rfl hb rfl ?_
    refine sxk 1 tabOK rfl ?_
    refine aops_nil ?_
    exact arr_loop ⟨(((((((k3 + 1) + 1) + 1) + 1) + 1) + 1), (i4 + 1), ((((((a5.set i4.toNat (PPair.mk (PVal.mk k3 x7.h.number x7.h.text) x7.t)).set i4.toNat (PPair.mk (PVal.mk x8.h.kind (k3 + 1) x8.h.text) x8.t)).set i4.toNat (PPair.mk (PVal.mk x10.h.kind x10.h.number x9) x10.t)).set i4.toNat (PPair.mk x11.h (PVal.mk (((k3 + 1) + 1) + 1) x11.t.number x11.t.text))).set i4.toNat (PPair.mk x12.h (PVal.mk x12.t.kind ((((k3 + 1) + 1) + 1) + 1) x12.t.text))).set i4.toNat (PPair.mk x14.h (PVal.mk x14.t.kind x14.t.number x13)))), hF, (le_down (down_all (ee_cons rfl rfl (Nat.le_of_ble_eq_true rfl) (ee_cons rfl rfl rfl (ee_cons rfl rfl rfl ee_nil))) (he_cons rfl rfl rfl (cPair.rows_ok _ rfl) he_nil) rfl rfl rfl rfl))⟩
  · refine at_exit ?_
    refine tk_x ?_
    refine ll_x ?_
    refine bk_hit ?_
    refine at_seq ?_
    refine at_region ?_
    refine sxk 2 tabOK rfl ?_
    refine aops_nil ?_
    refine at_ret ?_
    obtain rfl := Option.some.inj hF
    exact ret_lent rfl ((vle_refl _)) rfl

theorem w_heldPairS_ok (a : List PPair) (k : Int) (q : Int) (hF : w_heldPairS a k = some q) : FC Try.prog 40 [.psl 0 6 (a.map (cPair.enc 0)), .int .i64 k] [] 3 (fun x _ => x = .int .i64 q) := by
  refine FC.of_le ?_
  refine fc_body tabOK Try.func40 rfl Try.ntmps40 rfl rfl rfl ?_
  unfold w_heldPairS at hF
  refine at_seq ?_
  refine at_region ?_
  refine sxk 1 tabOK rfl ?_
  refine aops_nil ?_
  refine at_seq ?_
  refine at_seq ?_
  refine at_region ?_
  refine sxk 1 tabOK rfl ?_
  refine aops_nil ?_
  refine at_block ?_
  refine cl_loop (σ := Int × Int) (fun v => match v with | (k3, i4) => ⟨[(0, .psl 0 6 (a.map (cPair.enc 0))), (1, .int .i64 k3), (5, .int .i64 i4)], [], 3, 75, []⟩) (w_heldPairS_L1 a) LF (k, 0) hF (le_down (down_all (ee_cons rfl rfl (cPair.ok_psl _ rfl) (ee_cons rfl rfl rfl (ee_cons rfl rfl rfl ee_nil))) he_nil rfl rfl rfl rfl)) ?_
  rintro lk_ ⟨k3, i4⟩ hF
  refine at_eq (s' := ⟨[(0, .psl 0 6 (a.map (cPair.enc 0))), (1, .int .i64 k3), (5, .int .i64 i4)], [], 3, 75, []⟩) rfl ?_
  replace hF : w_heldPairS_L1b a (itr (w_heldPairS_L1 a) lk_) k3 i4 = some q := hF
  unfold w_heldPairS_L1b at hF
  generalize itr (w_heldPairS_L1 a) lk_ = go5 at hF ⊢
  refine at_seq ?_
  refine at_seq ?_
  refine at_region ?_
  refine sxk 2 tabOK rfl ?_
  refine sv rfl (oc_len cPair tabOK rfl rfl rfl) rfl ?_
  refine sxk 1 tabOK rfl ?_
  refine aops_nil ?_
  refine ct_if hF rfl (fun hc hF => ?_) (fun hc hF => ?_)
  · refine at_skip ?_
    refine at_seq ?_
    refine at_block ?_
    refine at_seq ?_
    refine at_seq ?_
    refine at_region ?_
    refine sxk 2 tabOK rfl ?_
    obtain ⟨x6, hn_x6, hF⟩ := bnd_some hF
    refine sv rfl (oc_addr cPair hn_x6 tabOK rfl rfl rfl rfl) rfl ?_
    refine sxk 5 tabOK rfl ?_
    refine aops_nil ?_
    refine ct_ifn hF rfl (fun hc hF => ?_) (fun hc hF => ?_)
    · refine at_seq ?_
      refine at_keep [] rfl ?_
      refine at_region ?_
      refine sxk 1 tabOK rfl ?_
      refine aops_nil ?_
      refine at_ret ?_
      refine tk_r ?_
      refine bk_r ?_
      refine tk_r ?_
      refine ll_r ?_
      refine bk_r ?_
      refine tk_r ?_
      obtain rfl := Option.some.inj hF
      refine ret_le rfl ?_
      exact (vle_refl _)
    · refine at_skip ?_
      refine at_seq ?_
      refine at_keep [0, 1, 5] rfl ?_
      refine at_region ?_
      refine sxk 1 tabOK rfl ?_
      obtain ⟨hb, hF⟩ := chk_some hF
      refine s_add tabOK rfl rfl rfl hb rfl ?_
      refine sxk 1 tabOK rfl ?_
      refine aops_nil ?_
      refine at_seq ?_
      refine at_seq ?_
      refine at_region ?_
      refine sxk 2 tabOK rfl ?_
      obtain ⟨x7, hn_x7, hF⟩ := bnd_some hF
      refine sv rfl (oc_addr cPair hn_x7 tabOK rfl rfl rfl rfl) rfl ?_
      refine sxk 5 tabOK rfl ?_
      refine aops_nil ?_
      refine ct_ifn hF rfl (fun hc hF => ?_) (fun hc hF => ?_)
      · refine at_seq ?_
        refine at_keep [] rfl ?_
        refine at_region ?_
        refine sxk 1 tabOK rfl ?_
        refine aops_nil ?_
        refine at_ret ?_
        refine tk_r ?_
        refine bk_r ?_
        refine tk_r ?_
        refine ll_r ?_
        refine bk_r ?_
        refine tk_r ?_
        obtain rfl := Option.some.inj hF
        refine ret_le rfl ?_
        exact (vle_refl _)
      · refine at_skip ?_
        refine at_seq ?_
        refine at_keep [0, 1, 5] rfl ?_
        refine at_region ?_
        refine sxk 1 tabOK rfl ?_
        obtain ⟨hb, hF⟩ := chk_some hF
        refine s_add tabOK rfl rfl rfl hb rfl ?_
        refine sxk 1 tabOK rfl ?_
        refine aops_nil ?_
        refine at_seq ?_
        refine at_seq ?_
        refine at_drawnM (id := 10) 8 (by kernel_rfl) (by kernel_rfl) ?_
        refine nx tabOK rfl ?_
        refine nx tabOK rfl ?_
        obtain ⟨x8, hn_x8, hF⟩ := bnd_some hF
        refine nv rfl (oc_addr cPair hn_x8 tabOK rfl rfl rfl rfl) rfl ?_
        refine nx tabOK rfl ?_
        refine nx tabOK rfl ?_
        refine nx tabOK rfl ?_
        refine nx tabOK rfl ?_
        obtain ⟨x9, hx9, hF⟩ := bnd_some hF
        refine n_call (w_markText_ok ((k3 + 1) + 1) x9 hx9) rfl ((rlL_cons (rfl) rlL_nil)) rfl rfl ?_
        refine dn_nil rfl ?_
        refine sxk 1 tabOK rfl ?_
        refine aops_nil ?_
        refine ct_ifn hF rfl (fun hc hF => ?_) (fun hc hF => ?_)
        · refine at_seq ?_
          refine at_keep [] rfl ?_
          refine at_region ?_
          refine sxk 1 tabOK rfl ?_
          refine aops_nil ?_
          refine at_ret ?_
          refine tk_r ?_
          refine bk_r ?_
          refine tk_r ?_
          refine ll_r ?_
          refine bk_r ?_
          refine tk_r ?_
          obtain rfl := Option.some.inj hF
          refine ret_le rfl ?_
          exact (vle_refl _)
        · refine at_skip ?_
          refine at_seq ?_
          refine at_keep [0, 1, 5] rfl ?_
          refine at_region ?_
          refine sxk 1 tabOK rfl ?_
          obtain ⟨hb, hF⟩ := chk_some hF
          refine s_add tabOK rfl rfl rfl hb rfl ?_
          refine sxk 1 tabOK rfl ?_
          refine aops_nil ?_
          refine at_seq ?_
          refine at_seq ?_
          refine at_region ?_
          refine sxk 2 tabOK rfl ?_
          obtain ⟨x10, hn_x10, hF⟩ := bnd_some hF
          refine sv rfl (oc_addr cPair hn_x10 tabOK rfl rfl rfl rfl) rfl ?_
          refine sxk 5 tabOK rfl ?_
          refine aops_nil ?_
          refine ct_ifn hF rfl (fun hc hF => ?_) (fun hc hF => ?_)
          · refine at_seq ?_
            refine at_keep [] rfl ?_
            refine at_region ?_
            refine sxk 1 tabOK rfl ?_
            refine aops_nil ?_
            refine at_ret ?_
            refine tk_r ?_
            refine bk_r ?_
            refine tk_r ?_
            refine ll_r ?_
            refine bk_r ?_
            refine tk_r ?_
            obtain rfl := Option.some.inj hF
            refine ret_le rfl ?_
            exact (vle_refl _)
          · refine at_skip ?_
            refine at_seq ?_
            refine at_keep [0, 1, 5] rfl ?_
            refine at_region ?_
            refine sxk 1 tabOK rfl ?_
            obtain ⟨hb, hF⟩ := chk_some hF
            refine s_add tabOK rfl rfl rfl hb rfl ?_
            refine sxk 1 tabOK rfl ?_
            refine aops_nil ?_
            refine at_seq ?_
            refine at_seq ?_
            refine at_region ?_
            refine sxk 2 tabOK rfl ?_
            obtain ⟨x11, hn_x11, hF⟩ := bnd_some hF
            refine sv rfl (oc_addr cPair hn_x11 tabOK rfl rfl rfl rfl) rfl ?_
            refine sxk 5 tabOK rfl ?_
            refine aops_nil ?_
            refine ct_ifn hF rfl (fun hc hF => ?_) (fun hc hF => ?_)
            · refine at_seq ?_
              refine at_keep [] rfl ?_
              refine at_region ?_
              refine sxk 1 tabOK rfl ?_
              refine aops_nil ?_
              refine at_ret ?_
              refine tk_r ?_
              refine bk_r ?_
              refine tk_r ?_
              refine ll_r ?_
              refine bk_r ?_
              refine tk_r ?_
              obtain rfl := Option.some.inj hF
              refine ret_le rfl ?_
              exact (vle_refl _)
            · refine at_skip ?_
              refine at_seq ?_
              refine at_keep [0, 1, 5] rfl ?_
              refine at_region ?_
              refine sxk 1 tabOK rfl ?_
              obtain ⟨hb, hF⟩ := chk_some hF
              refine s_add tabOK rfl rfl rfl hb rfl ?_
              refine sxk 1 tabOK rfl ?_
              refine aops_nil ?_
              refine at_seq ?_
              refine at_seq ?_
              refine at_drawnM (id := 19) 8 (by kernel_rfl) (by kernel_rfl) ?_
              refine nx tabOK rfl ?_
              refine nx tabOK rfl ?_
              obtain ⟨x12, hn_x12, hF⟩ := bnd_some hF
              refine nv rfl (oc_addr cPair hn_x12 tabOK rfl rfl rfl rfl) rfl ?_
              refine nx tabOK rfl ?_
              refine nx tabOK rfl ?_
              refine nx tabOK rfl ?_
              refine nx tabOK rfl ?_
              obtain ⟨x13, hx13, hF⟩ := bnd_some hF
              refine n_call (w_markText_ok (((((k3 + 1) + 1) + 1) + 1) + 1) x13 hx13) rfl ((rlL_cons (rfl) rlL_nil)) rfl rfl ?_
              refine dn_nil rfl ?_
              refine sxk 1 tabOK rfl ?_
              refine aops_nil ?_
              refine ct_ifn hF rfl (fun hc hF => ?_) (fun hc hF => ?_)
              · refine at_seq ?_
                refine at_keep [] rfl ?_
                refine at_region ?_
                refine sxk 1 tabOK rfl ?_
                refine aops_nil ?_
                refine at_ret ?_
                refine tk_r ?_
                refine bk_r ?_
                refine tk_r ?_
                refine ll_r ?_
                refine bk_r ?_
                refine tk_r ?_
                obtain rfl := Option.some.inj hF
                refine ret_le rfl ?_
                exact (vle_refl _)
              · refine at_skip ?_
                refine at_keep [0, 1, 5] rfl ?_
                refine at_region ?_
                refine sxk 1 tabOK rfl ?_
                obtain ⟨hb, hF⟩ := chk_some hF
                refine s_add tabOK rfl rfl rfl hb rfl ?_
                refine sxk 1 tabOK rfl ?_
                refine aops_nil ?_
                refine bk_n ?_
                refine at_region ?_
                refine sxk 1 tabOK rfl ?_
                obtain ⟨hb, hF⟩ := chk_some hF
                refine s_add tabOK rfl rfl rfl hb rfl ?_
                refine sxk 1 tabOK rfl ?_
                refine aops_nil ?_
                exact arr_loop ⟨(((((((k3 + 1) + 1) + 1) + 1) + 1) + 1), (i4 + 1)), hF, (le_down (down_all (ee_cons rfl rfl (cPair.ok_psl _ rfl) (ee_cons rfl rfl rfl (ee_cons rfl rfl rfl ee_nil))) he_nil rfl rfl rfl rfl))⟩
  · refine at_exit ?_
    refine tk_x ?_
    refine ll_x ?_
    refine bk_hit ?_
    refine at_seq ?_
    refine at_region ?_
    refine sxk 2 tabOK rfl ?_
    refine aops_nil ?_
    refine at_ret ?_
    obtain rfl := Option.some.inj hF
    refine ret_le rfl ?_
    exact (vle_refl _)

end Go.Proofs.Ytiecdekmiabmkaa
