/-
  Walks, made by wip/gen: E
-/
import Derived.Test.YtiecdekmiabmkaaGpE
import Derived.Test.YtiecdekmiabmkaaGwD
set_option linter.unusedVariables false
set_option linter.unusedSimpArgs false
namespace Go.Proofs.Ytiecdekmiabmkaa
open Go.Abs
attribute [local irreducible] AT AOps FC DR DN
set_option maxRecDepth 10000
set_option maxHeartbeats 4000000

theorem w_markText_ok (k : Int) (q : List UInt8) (hF : w_markText k = some q) : FC Try.prog 79 [.int .i64 k] [] 3 (fun x _ => x = .str q) := by
  refine FC.of_le ?_
  refine fc_body tabOK Try.func79 rfl Try.ntmps79 rfl rfl rfl ?_
  unfold w_markText at hF
  refine at_seq ?_
  refine at_region ?_
  refine sxk 1 tabOK rfl ?_
  refine aops_nil ?_
  refine at_seq ?_
  refine at_seq ?_
  refine at_region ?_
  refine sxk 2 tabOK rfl ?_
  refine aops_nil ?_
  refine ct_if hF rfl (fun hc hF => ?_) (fun hc hF => ?_)
  · refine at_seq ?_
    refine at_region ?_
    refine sxk 1 tabOK rfl ?_
    refine aops_nil ?_
    refine at_ret ?_
    refine tk_r ?_
    obtain rfl := Option.some.inj hF
    refine ret_le rfl ?_
    exact (vle_refl _)
  · refine at_skip ?_
    refine at_seq ?_
    refine at_region ?_
    refine sxk 1 tabOK rfl ?_
    refine aops_nil ?_
    refine at_seq ?_
    refine at_block ?_
    refine cl_loop (σ := Int × List UInt8) (fun v => match v with | (k2, out3) => ⟨[(0, .int .i64 k2), (3, .str out3)], [], 3, 20, []⟩) w_markText_L1 LF (k, ([] : List UInt8)) hF (le_down (down_all (ee_cons rfl rfl rfl (ee_cons rfl rfl rfl ee_nil)) he_nil rfl rfl rfl rfl)) ?_
    rintro lk_ ⟨k2, out3⟩ hF
    refine at_eq (s' := ⟨[(0, .int .i64 k2), (3, .str out3)], [], 3, 20, []⟩) rfl ?_
    replace hF : w_markText_L1b (itr w_markText_L1 lk_) k2 out3 = some q := hF
    unfold w_markText_L1b at hF
    generalize itr w_markText_L1 lk_ = go4 at hF ⊢
    refine at_seq ?_
    refine at_seq ?_
    refine at_region ?_
    refine sxk 2 tabOK rfl ?_
    refine aops_nil ?_
    refine ct_if hF rfl (fun hc hF => ?_) (fun hc hF => ?_)
    · refine at_skip ?_
      refine at_block ?_
      refine at_seq ?_
      refine at_region ?_
      refine sxk 1 tabOK rfl ?_
      obtain ⟨hb, hF⟩ := chk_some hF
      refine sv rfl (oc_rem rfl rfl hb) rfl ?_
      obtain ⟨hb, hF⟩ := chk_some hF
      refine s_add tabOK rfl rfl rfl hb rfl ?_
      obtain ⟨hb, hF⟩ := chk_some hF
      refine sv rfl (ov_toByte hb tabOK rfl rfl rfl) rfl ?_
      refine sc_slit cByte (l := 0) ([(UInt8.ofNat (48 + (k2 % 10)).toNat)] : List UInt8) tabOK rfl rfl rfl rfl rfl rfl rfl ?_
      refine sv rfl (ov_bytesH tabOK rfl rfl rfl rfl) rfl ?_
      refine sxk 1 tabOK rfl ?_
      obtain ⟨hb, hF⟩ := chk_some hF
      refine sv rfl (ov_cat rfl rfl hb) rfl ?_
      refine sxk 1 tabOK rfl ?_
      refine aops_nil ?_
      refine at_keep [0, 3] rfl ?_
      refine at_region ?_
      refine sxk 1 tabOK rfl ?_
      obtain ⟨hb, hF⟩ := chk_some hF
      refine sv rfl (oc_quo rfl rfl hb) rfl ?_
      refine sxk 1 tabOK rfl ?_
      refine aops_nil ?_
      refine bk_n ?_
      exact arr_loop ⟨((k2 / 10), (([(UInt8.ofNat (48 + (k2 % 10)).toNat)] : List UInt8) ++ out3)), hF, (le_down (down_all (ee_cons rfl rfl rfl (ee_cons rfl rfl rfl ee_nil)) he_nil rfl rfl rfl rfl))⟩
    · refine at_exit ?_
      refine tk_x ?_
      refine ll_x ?_
      refine bk_hit ?_
      refine at_seq ?_
      refine at_region ?_
      refine sxk 1 tabOK rfl ?_
      obtain ⟨hb, hF⟩ := chk_some hF
      refine sv rfl (ov_cat rfl rfl hb) rfl ?_
      refine sxk 1 tabOK rfl ?_
      refine aops_nil ?_
      refine at_ret ?_
      obtain rfl := Option.some.inj hF
      refine ret_le rfl ?_
      exact (vle_refl _)

theorem w_markDatumS_bok (w_markDatumS : List PDat → Int → Option (Int × List PDat)) (h_w_markDatumS : ∀ (a : List PDat) (k : Int) (q : Int × List PDat), w_markDatumS a k = some q → FC Try.prog 78 [.hsl 0 0 a.length, .int .i64 k] [(0, ⟨4, a.map (cDat.enc 2)⟩)] 3 (fun x h2 => x = .int .i64 q.1 ∧ hget h2 0 = some ⟨4, q.2.map (cDat.enc 2)⟩)) (a : List PDat) (k : Int) (q : Int × List PDat) (hF : w_markDatumS_b w_markDatumS a k = some q) : FC Try.prog 78 [.hsl 0 0 a.length, .int .i64 k] [(0, ⟨4, a.map (cDat.enc 2)⟩)] 3 (fun x h2 => x = .int .i64 q.1 ∧ hget h2 0 = some ⟨4, q.2.map (cDat.enc 2)⟩) := by
  refine FC.of_le_lent ?_
  refine fc_body tabOK Try.func78 rfl Try.ntmps78 rfl rfl rfl ?_
  unfold w_markDatumS_b at hF
  refine at_seq ?_
  refine at_region ?_
  refine sxk 1 tabOK rfl ?_
  refine aops_nil ?_
  refine at_seq ?_
  refine at_seq ?_
  refine at_region ?_
  refine sxk 1 tabOK rfl ?_
  refine aops_nil ?_
  refine at_block ?_
  refine cl_loop (σ := Int × Int × List PDat) (fun v => match v with | (k4, i5, a6) => ⟨[(0, .hsl 0 0 a6.length), (1, .int .i64 k4), (5, .int .i64 i5)], [(0, ⟨4, a6.map (cDat.enc 2)⟩)], 3, 42, []⟩) (w_markDatumS_L1 w_markDatumS) LF (k, 0, a) hF (le_down (down_all (ee_cons rfl rfl (Nat.le_of_ble_eq_true rfl) (ee_cons rfl rfl rfl (ee_cons rfl rfl rfl ee_nil))) (he_cons rfl rfl rfl (cDat.rows_ok _ rfl) he_nil) rfl rfl rfl rfl)) ?_
  rintro lk_ ⟨k4, i5, a6⟩ hF
  refine at_eq (s' := ⟨[(0, .hsl 0 0 a6.length), (1, .int .i64 k4), (5, .int .i64 i5)], [(0, ⟨4, a6.map (cDat.enc 2)⟩)], 3, 42, []⟩) rfl ?_
  replace hF : w_markDatumS_L1b w_markDatumS (itr (w_markDatumS_L1 w_markDatumS) lk_) k4 i5 a6 = some q := hF
  unfold w_markDatumS_L1b at hF
  generalize itr (w_markDatumS_L1 w_markDatumS) lk_ = go7 at hF ⊢
  refine at_seq ?_
  refine at_seq ?_
  refine at_region ?_
  refine sxk 2 tabOK rfl ?_
  refine sv rfl (oc_hlen cDat tabOK rfl rfl rfl) rfl ?_
  refine sxk 1 tabOK rfl ?_
  refine aops_nil ?_
  refine ct_if hF rfl (fun hc hF => ?_) (fun hc hF => ?_)
  · refine at_skip ?_
    refine at_seq ?_
    refine at_block ?_
    refine at_seq ?_
    refine at_region ?_
    refine sxk 3 tabOK rfl ?_
    obtain ⟨x8, hn_x8, hF⟩ := bnd_some hF
    refine sv rfl (oc_haddr cDat hn_x8 tabOK rfl rfl rfl rfl) rfl ?_
    refine sv rfl (oc_hfield tabOK rfl rfl rfl rfl (by simp)) rfl ?_
    refine sc_store cDat (v' := (PDat.mk k4 x8.number x8.text x8.items)) hn_x8 tabOK rfl rfl rfl rfl rfl rfl rfl rfl ?_
    refine ops_le (le_slot (y := .hsl 0 0 (a6.set i5.toNat (PDat.mk k4 x8.number x8.text x8.items)).length) 0 rfl (vle_eq (congrArg (V.hsl 0 0) (by simp))) rfl) ?_
    refine aops_nil ?_
    refine at_seq ?_
    refine at_keep [0, 1, 5] rfl ?_
    refine at_region ?_
    refine sxk 1 tabOK rfl ?_
    obtain ⟨hb, hF⟩ := chk_some hF
    refine s_add tabOK rfl rfl rfl hb rfl ?_
    refine sxk 1 tabOK rfl ?_
    refine aops_nil ?_
    refine at_seq ?_
    refine at_region ?_
    refine sxk 3 tabOK rfl ?_
    obtain ⟨x9, hn_x9, hF⟩ := bnd_some hF
    refine sv rfl (oc_haddr cDat hn_x9 tabOK rfl rfl rfl rfl) rfl ?_
    refine sv rfl (oc_hfield tabOK rfl rfl rfl rfl (by simp)) rfl ?_
    refine sc_store cDat (v' := (PDat.mk x9.kind (k4 + 1) x9.text x9.items)) hn_x9 tabOK rfl rfl rfl rfl rfl rfl rfl rfl ?_
    refine ops_le (le_slot (y := .hsl 0 0 ((a6.set i5.toNat (PDat.mk k4 x8.number x8.text x8.items)).set i5.toNat (PDat.mk x9.kind (k4 + 1) x9.text x9.items)).length) 0 rfl (vle_eq (congrArg (V.hsl 0 0) (by simp))) rfl) ?_
    refine aops_nil ?_
    refine at_seq ?_
    refine at_keep [0, 1, 5] rfl ?_
    refine at_region ?_
    refine sxk 1 tabOK rfl ?_
    obtain ⟨hb, hF⟩ := chk_some hF
    refine s_add tabOK rfl rfl rfl hb rfl ?_
    refine sxk 1 tabOK rfl ?_
    refine aops_nil ?_
    refine at_seq ?_
    refine at_region ?_
    refine sxk 3 tabOK rfl ?_
    obtain ⟨x10, hx10, hF⟩ := bnd_some hF
    refine call_eq (w_markText_ok ((k4 + 1) + 1) x10 hx10) rfl ((rlL_cons (rfl) rlL_nil)) rfl rfl ?_
    obtain ⟨x11, hn_x11, hF⟩ := bnd_some hF
    refine sv rfl (oc_haddr cDat hn_x11 tabOK rfl rfl rfl rfl) rfl ?_
    refine sv rfl (oc_hfield tabOK rfl rfl rfl rfl (by simp)) rfl ?_
    refine sc_store cDat (v' := (PDat.mk x11.kind x11.number x10 x11.items)) hn_x11 tabOK rfl rfl rfl rfl rfl rfl rfl rfl ?_
    refine ops_le (le_slot (y := .hsl 0 0 (((a6.set i5.toNat (PDat.mk k4 x8.number x8.text x8.items)).set i5.toNat (PDat.mk x9.kind (k4 + 1) x9.text x9.items)).set i5.toNat (PDat.mk x11.kind x11.number x10 x11.items)).length) 0 rfl (vle_eq (congrArg (V.hsl 0 0) (by simp))) rfl) ?_
    refine aops_nil ?_
    refine at_seq ?_
    refine at_keep [0, 1, 5] rfl ?_
    refine at_region ?_
    refine sxk 1 tabOK rfl ?_
    obtain ⟨hb, hF⟩ := chk_some hF
    refine s_add tabOK rfl rfl rfl hb rfl ?_
    refine sxk 1 tabOK rfl ?_
    refine aops_nil ?_
    refine at_region ?_
    refine sxk 2 tabOK rfl ?_
    obtain ⟨x12, hn_x12, hF⟩ := bnd_some hF
    refine sv rfl (oc_haddr cDat hn_x12 tabOK rfl rfl rfl rfl) rfl ?_
    refine sv rfl (oc_hfield tabOK rfl rfl rfl rfl (by simp)) rfl ?_
    refine ops_le (le_openN 0 i5.toNat x12.items.length [.int .i64 x12.kind, .int .i64 x12.number, .str x12.text] [] rfl rfl rfl (cDat.at2 hn_x12) (len_map _ _) rfl rfl) ?_
    refine sv rfl (oc_loadx cDat (l := 2) hn_x12 tabOK rfl rfl rfl rfl) rfl ?_
    refine sxk 1 tabOK rfl ?_
    obtain ⟨x13, hx13, hF⟩ := bnd_some hF
    obtain ⟨hb_x13, hF⟩ := chk_some hF
    refine call_lend1 3 (h_w_markDatumS x12.items (((k4 + 1) + 1) + 1) x13 hx13) rfl (rnL_cons rfl (rnL_cons rfl rnL_nil)) rfl (Cd.rnR cDat _ x12.items rfl) (rn_of_rl _ rfl) (Cd.rnR cDat _ x13.2 rfl) rfl ?_
    refine ops_le (le_closeN 0 3 i5.toNat x12.items.length [.int .i64 x12.kind, .int .i64 x12.number, .str x12.text] [] rfl rfl rfl rfl rfl ((len_map _ _).trans hb_x13) (cDat.atx _ hn_x12) (Cd.dps0 cDat 2 (fun _ => rfl) _) rfl rfl) ?_
    refine ops_le (le_rows 0 (rows' := ((((a6.set i5.toNat (PDat.mk k4 x8.number x8.text x8.items)).set i5.toNat (PDat.mk x9.kind (k4 + 1) x9.text x9.items)).set i5.toNat (PDat.mk x11.kind x11.number x10 x11.items)).set i5.toNat (PDat.mk x12.kind x12.number x12.text x13.2)).map (cDat.enc 2)) rfl ((set_set' _ _ _ _).trans (cDat.setx (((a6.set i5.toNat (PDat.mk k4 x8.number x8.text x8.items)).set i5.toNat (PDat.mk x9.kind (k4 + 1) x9.text x9.items)).set i5.toNat (PDat.mk x11.kind x11.number x10 x11.items)) i5.toNat (PDat.mk x12.kind x12.number x12.text x13.2))) rfl) ?_
    refine ops_le (le_slot (y := .hsl 0 0 ((((a6.set i5.toNat (PDat.mk k4 x8.number x8.text x8.items)).set i5.toNat (PDat.mk x9.kind (k4 + 1) x9.text x9.items)).set i5.toNat (PDat.mk x11.kind x11.number x10 x11.items)).set i5.toNat (PDat.mk x12.kind x12.number x12.text x13.2)).length) 0 rfl (vle_eq (congrArg (V.hsl 0 0) (by simp))) rfl) ?_
    refine sxk 1 tabOK rfl ?_
    refine aops_nil ?_
    refine bk_n ?_
    refine at_keep [0, 1, 5] rfl ?_
    refine at_region ?_
    refine sxk 1 tabOK rfl ?_
    obtain ⟨hb, hF⟩ := chk_some hF
    refine s_add tabOK rfl rfl rfl hb rfl ?_
    refine sxk 1 tabOK rfl ?_
    refine aops_nil ?_
    exact arr_loop ⟨(x13.1, (i5 + 1), ((((a6.set i5.toNat (PDat.mk k4 x8.number x8.text x8.items)).set i5.toNat (PDat.mk x9.kind (k4 + 1) x9.text x9.items)).set i5.toNat (PDat.mk x11.kind x11.number x10 x11.items)).set i5.toNat (PDat.mk x12.kind x12.number x12.text x13.2))), hF, (le_down (down_all (ee_cons rfl rfl (Nat.le_of_ble_eq_true rfl) (ee_cons rfl rfl rfl (ee_cons rfl rfl rfl ee_nil))) (he_cons rfl rfl rfl (cDat.rows_ok _ rfl) he_nil) rfl rfl rfl rfl))⟩
  · refine at_exit ?_
    refine tk_x ?_
    refine ll_x ?_
    refine bk_hit ?_
    refine at_seq ?_
    refine at_region ?_
    refine sxk 2 tabOK rfl ?_
    refine aops_nil ?_
    refine at_ret ?_
    obtain rfl := Option.some.inj hF
    exact ret_lent rfl ((vle_refl _)) rfl

theorem w_markDatumS_all (n : Nat) : (∀ (a : List PDat) (k : Int) (q : Int × List PDat), w_markDatumS n a k = some q → FC Try.prog 78 [.hsl 0 0 a.length, .int .i64 k] [(0, ⟨4, a.map (cDat.enc 2)⟩)] 3 (fun x h2 => x = .int .i64 q.1 ∧ hget h2 0 = some ⟨4, q.2.map (cDat.enc 2)⟩)) := by
  induction n with
  | zero => exact fun _ _ q h => by cases h
  | succ n ih => exact fun a k q h => w_markDatumS_bok (w_markDatumS n) ih a k q h

theorem w_markDatumS_ok (n : Nat) (a : List PDat) (k : Int) (q : Int × List PDat) (hF : w_markDatumS n a k = some q) : FC Try.prog 78 [.hsl 0 0 a.length, .int .i64 k] [(0, ⟨4, a.map (cDat.enc 2)⟩)] 3 (fun x h2 => x = .int .i64 q.1 ∧ hget h2 0 = some ⟨4, q.2.map (cDat.enc 2)⟩) := (w_markDatumS_all n) a k q hF

theorem w_markInstrS_ok (a : List PInstr) (k : Int) (q : Int × List PInstr) (hF : w_markInstrS a k = some q) : FC Try.prog 120 [.hsl 0 0 a.length, .int .i64 k] [(0, ⟨6, a.map (cInstr.enc 2)⟩)] 3 (fun x h2 => x = .int .i64 q.1 ∧ hget h2 0 = some ⟨6, q.2.map (cInstr.enc 2)⟩) := by
  refine FC.of_le_lent ?_
  refine fc_body tabOK Try.func120 rfl Try.ntmps120 rfl rfl rfl ?_
  unfold w_markInstrS at hF
  refine at_seq ?_
  refine at_region ?_
  refine sxk 1 tabOK rfl ?_
  refine aops_nil ?_
  refine at_seq ?_
  refine at_seq ?_
  refine at_region ?_
  refine sxk 1 tabOK rfl ?_
  refine aops_nil ?_
  refine at_block ?_
  refine cl_loop (σ := Int × Int × List PInstr) (fun v => match v with | (k3, i4, a5) => ⟨[(0, .hsl 0 0 a5.length), (1, .int .i64 k3), (5, .int .i64 i4)], [(0, ⟨6, a5.map (cInstr.enc 2)⟩)], 3, 60, []⟩) (w_markInstrS_L1 a) LF (k, 0, a) hF (le_down (down_all (ee_cons rfl rfl (Nat.le_of_ble_eq_true rfl) (ee_cons rfl rfl rfl (ee_cons rfl rfl rfl ee_nil))) (he_cons rfl rfl rfl (cInstr.rows_ok _ rfl) he_nil) rfl rfl rfl rfl)) ?_
  rintro lk_ ⟨k3, i4, a5⟩ hF
  refine at_eq (s' := ⟨[(0, .hsl 0 0 a5.length), (1, .int .i64 k3), (5, .int .i64 i4)], [(0, ⟨6, a5.map (cInstr.enc 2)⟩)], 3, 60, []⟩) rfl ?_
  replace hF : w_markInstrS_L1b a (itr (w_markInstrS_L1 a) lk_) k3 i4 a5 = some q := hF
  unfold w_markInstrS_L1b at hF
  generalize itr (w_markInstrS_L1 a) lk_ = go6 at hF ⊢
  refine at_seq ?_
  refine at_seq ?_
  refine at_region ?_
  refine sxk 2 tabOK rfl ?_
  refine sv rfl (oc_hlen cInstr tabOK rfl rfl rfl) rfl ?_
  refine sxk 1 tabOK rfl ?_
  refine aops_nil ?_
  refine ct_if hF rfl (fun hc hF => ?_) (fun hc hF => ?_)
  · refine at_skip ?_
    refine at_seq ?_
    refine at_block ?_
    refine at_seq ?_
    refine at_region ?_
    refine sxk 3 tabOK rfl ?_
    obtain ⟨x7, hn_x7, hF⟩ := bnd_some hF
    refine sv rfl (oc_haddr cInstr hn_x7 tabOK rfl rfl rfl rfl) rfl ?_
    refine sv rfl (oc_hfield tabOK rfl rfl rfl rfl (by simp)) rfl ?_
    refine sc_store cInstr (v' := (PInstr.mk k3 x7.a x7.d)) hn_x7 tabOK rfl rfl rfl rfl rfl rfl rfl rfl ?_
    refine ops_le (le_slot (y := .hsl 0 0 (a5.set i4.toNat (PInstr.mk k3 x7.a x7.d)).length) 0 rfl (vle_eq (congrArg (V.hsl 0 0) (by simp))) rfl) ?_
    refine aops_nil ?_
    refine at_seq ?_
    refine at_keep [0, 1, 5] rfl ?_
    refine at_region ?_
    refine sxk 1 tabOK rfl ?_
    obtain ⟨hb, hF⟩ := chk_some hF
    refine s_add tabOK rfl rfl rfl hb rfl ?_
    refine sxk 1 tabOK rfl ?_
    refine aops_nil ?_
    refine at_seq ?_
    refine at_region ?_
    refine sxk 3 tabOK rfl ?_
    obtain ⟨x8, hn_x8, hF⟩ := bnd_some hF
    refine sv rfl (oc_haddr cInstr hn_x8 tabOK rfl rfl rfl rfl) rfl ?_
    refine sv rfl (oc_hfield tabOK rfl rfl rfl rfl (by simp)) rfl ?_
    refine sc_store cInstr (v' := (PInstr.mk x8.op (k3 + 1) x8.d)) hn_x8 tabOK rfl rfl rfl rfl rfl rfl rfl rfl ?_
    refine ops_le (le_slot (y := .hsl 0 0 ((a5.set i4.toNat (PInstr.mk k3 x7.a x7.d)).set i4.toNat (PInstr.mk x8.op (k3 + 1) x8.d)).length) 0 rfl (vle_eq (congrArg (V.hsl 0 0) (by simp))) rfl) ?_
    refine aops_nil ?_
    refine at_seq ?_
    refine at_keep [0, 1, 5] rfl ?_
    refine at_region ?_
    refine sxk 1 tabOK rfl ?_
    obtain ⟨hb, hF⟩ := chk_some hF
    refine s_add tabOK rfl rfl rfl hb rfl ?_
    refine sxk 1 tabOK rfl ?_
    refine aops_nil ?_
    refine at_seq ?_
    refine at_region ?_
    refine sxk 3 tabOK rfl ?_
    obtain ⟨x9, hn_x9, hF⟩ := bnd_some hF
    refine sv rfl (oc_haddr cInstr hn_x9 tabOK rfl rfl rfl rfl) rfl ?_
    refine sv rfl (oc_hfield tabOK rfl rfl rfl rfl (by simp)) rfl ?_
    refine sv rfl (oc_hfield tabOK rfl rfl rfl rfl (by simp)) rfl ?_
    refine sc_store cInstr (v' := (PInstr.mk x9.op x9.a (PDat.mk ((k3 + 1) + 1) x9.d.number x9.d.text x9.d.items))) hn_x9 tabOK rfl rfl rfl rfl rfl rfl rfl rfl ?_
    refine ops_le (le_slot (y := .hsl 0 0 (((a5.set i4.toNat (PInstr.mk k3 x7.a x7.d)).set i4.toNat (PInstr.mk x8.op (k3 + 1) x8.d)).set i4.toNat (PInstr.mk x9.op x9.a (PDat.mk ((k3 + 1) + 1) x9.d.number x9.d.text x9.d.items))).length) 0 rfl (vle_eq (congrArg (V.hsl 0 0) (by simp))) rfl) ?_
    refine aops_nil ?_
    refine at_seq ?_
    refine at_keep [0, 1, 5] rfl ?_
    refine at_region ?_
    refine sxk 1 tabOK rfl ?_
    obtain ⟨hb, hF⟩ := chk_some hF
    refine s_add tabOK rfl rfl rfl hb rfl ?_
    refine sxk 1 tabOK rfl ?_
    refine aops_nil ?_
    refine at_seq ?_
    refine at_region ?_
    refine sxk 3 tabOK rfl ?_
    obtain ⟨x10, hn_x10, hF⟩ := bnd_some hF
    refine sv rfl (oc_haddr cInstr hn_x10 tabOK rfl rfl rfl rfl) rfl ?_
    refine sv rfl (oc_hfield tabOK rfl rfl rfl rfl (by simp)) rfl ?_
    refine sv rfl (oc_hfield tabOK rfl rfl rfl rfl (by simp)) rfl ?_
    refine sc_store cInstr (v' := (PInstr.mk x10.op x10.a (PDat.mk x10.d.kind (((k3 + 1) + 1) + 1) x10.d.text x10.d.items))) hn_x10 tabOK rfl rfl rfl rfl rfl rfl rfl rfl ?_
    refine ops_le (le_slot (y := .hsl 0 0 ((((a5.set i4.toNat (PInstr.mk k3 x7.a x7.d)).set i4.toNat (PInstr.mk x8.op (k3 + 1) x8.d)).set i4.toNat (PInstr.mk x9.op x9.a (PDat.mk ((k3 + 1) + 1) x9.d.number x9.d.text x9.d.items))).set i4.toNat (PInstr.mk x10.op x10.a (PDat.mk x10.d.kind (((k3 + 1) + 1) + 1) x10.d.text x10.d.items))).length) 0 rfl (vle_eq (congrArg (V.hsl 0 0) (by simp))) rfl) ?_
    refine aops_nil ?_
    refine at_seq ?_
    refine at_keep [0, 1, 5] rfl ?_
    refine at_region ?_
    refine sxk 1 tabOK rfl ?_
    obtain ⟨hb, hF⟩ := chk_some hF
    refine s_add tabOK rfl rfl rfl hb rfl ?_
    refine sxk 1 tabOK rfl ?_
    refine aops_nil ?_
    refine at_seq ?_
    refine at_region ?_
    refine sxk 3 tabOK rfl ?_
    obtain ⟨x11, hx11, hF⟩ := bnd_some hF
    refine call_eq (w_markText_ok ((((k3 + 1) + 1) + 1) + 1) x11 hx11) rfl ((rlL_cons (rfl) rlL_nil)) rfl rfl ?_
    obtain ⟨x12, hn_x12, hF⟩ := bnd_some hF
    refine sv rfl (oc_haddr cInstr hn_x12 tabOK rfl rfl rfl rfl) rfl ?_
    refine sv rfl (oc_hfield tabOK rfl rfl rfl rfl (by simp)) rfl ?_
    refine sv rfl (oc_hfield tabOK rfl rfl rfl rfl (by simp)) rfl ?_
    refine sc_store cInstr (v' := (PInstr.mk x12.op x12.a (PDat.mk x12.d.kind x12.d.number x11 x12.d.items))) hn_x12 tabOK rfl rfl rfl rfl rfl rfl rfl rfl ?_
    refine ops_le (le_slot (y := .hsl 0 0 (((((a5.set i4.toNat (PInstr.mk k3 x7.a x7.d)).set i4.toNat (PInstr.mk x8.op (k3 + 1) x8.d)).set i4.toNat (PInstr.mk x9.op x9.a (PDat.mk ((k3 + 1) + 1) x9.d.number x9.d.text x9.d.items))).set i4.toNat (PInstr.mk x10.op x10.a (PDat.mk x10.d.kind (((k3 + 1) + 1) + 1) x10.d.text x10.d.items))).set i4.toNat (PInstr.mk x12.op x12.a (PDat.mk x12.d.kind x12.d.number x11 x12.d.items))).length) 0 rfl (vle_eq (congrArg (V.hsl 0 0) (by simp))) rfl) ?_
    refine aops_nil ?_
    refine at_seq ?_
    refine at_keep [0, 1, 5] rfl ?_
    refine at_region ?_
    refine sxk 1 tabOK rfl ?_
    obtain ⟨hb, hF⟩ := chk_some hF
    refine s_add tabOK rfl rfl rfl hb rfl ?_
    refine sxk 1 tabOK rfl ?_
    refine aops_nil ?_
    refine at_region ?_
    refine sxk 2 tabOK rfl ?_
    obtain ⟨x13, hn_x13, hF⟩ := bnd_some hF
    refine sv rfl (oc_haddr cInstr hn_x13 tabOK rfl rfl rfl rfl) rfl ?_
    refine sv rfl (oc_hfield tabOK rfl rfl rfl rfl (by simp)) rfl ?_
    refine sv rfl (oc_hfield tabOK rfl rfl rfl rfl (by simp)) rfl ?_
    refine ops_le (le_openN 0 i4.toNat x13.d.items.length [.int .i64 x13.op, .int .i64 x13.a, .int .i64 x13.d.kind, .int .i64 x13.d.number, .str x13.d.text] [] rfl rfl rfl (cInstr.at2 hn_x13) (len_map _ _) rfl rfl) ?_
    refine sv rfl (oc_loadx cInstr (l := 2) hn_x13 tabOK rfl rfl rfl rfl) rfl ?_
    refine sxk 1 tabOK rfl ?_
    obtain ⟨x14, hx14, hF⟩ := bnd_some hF
    obtain ⟨hb_x14, hF⟩ := chk_some hF
    refine call_lend1 3 (w_markDatumS_ok RF x13.d.items (((((k3 + 1) + 1) + 1) + 1) + 1) x14 hx14) rfl (rnL_cons rfl (rnL_cons rfl rnL_nil)) rfl (Cd.rnR cDat _ x13.d.items rfl) (rn_of_rl _ rfl) (Cd.rnR cDat _ x14.2 rfl) rfl ?_
    refine ops_le (le_closeN 0 3 i4.toNat x13.d.items.length [.int .i64 x13.op, .int .i64 x13.a, .int .i64 x13.d.kind, .int .i64 x13.d.number, .str x13.d.text] [] rfl rfl rfl rfl rfl ((len_map _ _).trans hb_x14) (cInstr.atx _ hn_x13) (Cd.dps0 cDat 2 (fun _ => rfl) _) rfl rfl) ?_
    refine ops_le (le_rows 0 (rows' := ((((((a5.set i4.toNat (PInstr.mk k3 x7.a x7.d)).set i4.toNat (PInstr.mk x8.op (k3 + 1) x8.d)).set i4.toNat (PInstr.mk x9.op x9.a (PDat.mk ((k3 + 1) + 1) x9.d.number x9.d.text x9.d.items))).set i4.toNat (PInstr.mk x10.op x10.a (PDat.mk x10.d.kind (((k3 + 1) + 1) + 1) x10.d.text x10.d.items))).set i4.toNat (PInstr.mk x12.op x12.a (PDat.mk x12.d.kind x12.d.number x11 x12.d.items))).set i4.toNat (PInstr.mk x13.op x13.a (PDat.mk x13.d.kind x13.d.number x13.d.text x14.2))).map (cInstr.enc 2)) rfl ((set_set' _ _ _ _).trans (cInstr.setx (((((a5.set i4.toNat (PInstr.mk k3 x7.a x7.d)).set i4.toNat (PInstr.mk x8.op (k3 + 1) x8.d)).set i4.toNat (PInstr.mk x9.op x9.a (PDat.mk ((k3 + 1) + 1) x9.d.number x9.d.text x9.d.items))).set i4.toNat (PInstr.mk x10.op x10.a (PDat.mk x10.d.kind (((k3 + 1) + 1) + 1) x10.d.text x10.d.items))).set i4.toNat (PInstr.mk x12.op x12.a (PDat.mk x12.d.kind x12.d.number x11 x12.d.items))) i4.toNat (PInstr.mk x13.op x13.a (PDat.mk x13.d.kind x13.d.number x13.d.text x14.2)))) rfl) ?_
    refine ops_le (le_slot (y := .hsl 0 0 ((((((a5.set i4.toNat (PInstr.mk k3 x7.a x7.d)).set i4.toNat (PInstr.mk x8.op (k3 + 1) x8.d)).set i4.toNat (PInstr.mk x9.op x9.a (PDat.mk ((k3 + 1) + 1) x9.d.number x9.d.text x9.d.items))).set i4.toNat (PInstr.mk x10.op x10.a (PDat.mk x10.d.kind (((k3 + 1) + 1) + 1) x10.d.text x10.d.items))).set i4.toNat (PInstr.mk x12.op x12.a (PDat.mk x12.d.kind x12.d.number x11 x12.d.items))).set i4.toNat (PInstr.mk x13.op x13.a (PDat.mk x13.d.kind x13.d.number x13.d.text x14.2))).length) 0 rfl (vle_eq (congrArg (V.hsl 0 0) (by simp))) rfl) ?_
    refine sxk 1 tabOK rfl ?_
    refine aops_nil ?_
    refine bk_n ?_
    refine at_keep [0, 1, 5] rfl ?_
    refine at_region ?_
    refine sxk 1 tabOK rfl ?_
    obtain ⟨hb, hF⟩ := chk_some hF
    refine s_add tabOK rfl rfl rfl hb rfl ?_
    refine sxk 1 tabOK rfl ?_
    refine aops_nil ?_
    exact arr_loop ⟨(x14.1, (i4 + 1), ((((((a5.set i4.toNat (PInstr.mk k3 x7.a x7.d)).set i4.toNat (PInstr.mk x8.op (k3 + 1) x8.d)).set i4.toNat (PInstr.mk x9.op x9.a (PDat.mk ((k3 + 1) + 1) x9.d.number x9.d.text x9.d.items))).set i4.toNat (PInstr.mk x10.op x10.a (PDat.mk x10.d.kind (((k3 + 1) + 1) + 1) x10.d.text x10.d.items))).set i4.toNat (PInstr.mk x12.op x12.a (PDat.mk x12.d.kind x12.d.number x11 x12.d.items))).set i4.toNat (PInstr.mk x13.op x13.a (PDat.mk x13.d.kind x13.d.number x13.d.text x14.2)))), hF, (le_down (down_all (ee_cons rfl rfl (Nat.le_of_ble_eq_true rfl) (ee_cons rfl rfl rfl (ee_cons rfl rfl rfl ee_nil))) (he_cons rfl rfl rfl (cInstr.rows_ok _ rfl) he_nil) rfl rfl rfl rfl))⟩
  · refine at_exit ?_
    refine tk_x ?_
    refine ll_x ?_
    refine bk_hit ?_
    refine at_seq ?_
    refine at_region ?_
    refine sxk 2 tabOK rfl ?_
    refine aops_nil ?_
    refine at_ret ?_
    obtain rfl := Option.some.inj hF
    exact ret_lent rfl ((vle_refl _)) rfl

theorem w_markCodeS_ok (a : List PCode) (k : Int) (q : Int × List PCode) (hF : w_markCodeS a k = some q) : FC Try.prog 87 [.hsl 0 0 a.length, .int .i64 k] [(0, ⟨4, a.map (cCode.enc 2)⟩)] 3 (fun x h2 => x = .int .i64 q.1 ∧ hget h2 0 = some ⟨4, q.2.map (cCode.enc 2)⟩) := by
  refine FC.of_le_lent ?_
  refine fc_body tabOK Try.func87 rfl Try.ntmps87 rfl rfl rfl ?_
  unfold w_markCodeS at hF
  refine at_seq ?_
  refine at_region ?_
  refine sxk 1 tabOK rfl ?_
  refine aops_nil ?_
  refine at_seq ?_
  refine at_seq ?_
  refine at_region ?_
  refine sxk 1 tabOK rfl ?_
  refine aops_nil ?_
  refine at_block ?_
  refine cl_loop (σ := Int × Int × List PCode) (fun v => match v with | (k3, i4, a5) => ⟨[(0, .hsl 0 0 a5.length), (1, .int .i64 k3), (5, .int .i64 i4)], [(0, ⟨4, a5.map (cCode.enc 2)⟩)], 3, 41, []⟩) w_markCodeS_L1 LF (k, 0, a) hF (le_down (down_all (ee_cons rfl rfl (Nat.le_of_ble_eq_true rfl) (ee_cons rfl rfl rfl (ee_cons rfl rfl rfl ee_nil))) (he_cons rfl rfl rfl (cCode.rows_ok _ rfl) he_nil) rfl rfl rfl rfl)) ?_
  rintro lk_ ⟨k3, i4, a5⟩ hF
  refine at_eq (s' := ⟨[(0, .hsl 0 0 a5.length), (1, .int .i64 k3), (5, .int .i64 i4)], [(0, ⟨4, a5.map (cCode.enc 2)⟩)], 3, 41, []⟩) rfl ?_
  replace hF : w_markCodeS_L1b (itr w_markCodeS_L1 lk_) k3 i4 a5 = some q := hF
  unfold w_markCodeS_L1b at hF
  generalize itr w_markCodeS_L1 lk_ = go6 at hF ⊢
  refine at_seq ?_
  refine at_seq ?_
  refine at_region ?_
  refine sxk 2 tabOK rfl ?_
  refine sv rfl (oc_hlen cCode tabOK rfl rfl rfl) rfl ?_
  refine sxk 1 tabOK rfl ?_
  refine aops_nil ?_
  refine ct_if hF rfl (fun hc hF => ?_) (fun hc hF => ?_)
  · refine at_skip ?_
    refine at_seq ?_
    refine at_block ?_
    refine at_seq ?_
    refine at_region ?_
    refine sxk 3 tabOK rfl ?_
    obtain ⟨x7, hn_x7, hF⟩ := bnd_some hF
    refine sv rfl (oc_haddr cCode hn_x7 tabOK rfl rfl rfl rfl) rfl ?_
    refine sv rfl (oc_hfield tabOK rfl rfl rfl rfl (by simp)) rfl ?_
    refine sc_store cCode (v' := (PCode.mk k3 x7.slots x7.captures x7.instrs)) hn_x7 tabOK rfl rfl rfl rfl rfl rfl rfl rfl ?_
    refine ops_le (le_slot (y := .hsl 0 0 (a5.set i4.toNat (PCode.mk k3 x7.slots x7.captures x7.instrs)).length) 0 rfl (vle_eq (congrArg (V.hsl 0 0) (by simp))) rfl) ?_
    refine aops_nil ?_
    refine at_seq ?_
    refine at_keep [0, 1, 5] rfl ?_
    refine at_region ?_
    refine sxk 1 tabOK rfl ?_
    obtain ⟨hb, hF⟩ := chk_some hF
    refine s_add tabOK rfl rfl rfl hb rfl ?_
    refine sxk 1 tabOK rfl ?_
    refine aops_nil ?_
    refine at_seq ?_
    refine at_region ?_
    refine sxk 3 tabOK rfl ?_
    obtain ⟨x8, hn_x8, hF⟩ := bnd_some hF
    refine sv rfl (oc_haddr cCode hn_x8 tabOK rfl rfl rfl rfl) rfl ?_
    refine sv rfl (oc_hfield tabOK rfl rfl rfl rfl (by simp)) rfl ?_
    refine sc_store cCode (v' := (PCode.mk x8.params (k3 + 1) x8.captures x8.instrs)) hn_x8 tabOK rfl rfl rfl rfl rfl rfl rfl rfl ?_
    refine ops_le (le_slot (y := .hsl 0 0 ((a5.set i4.toNat (PCode.mk k3 x7.slots x7.captures x7.instrs)).set i4.toNat (PCode.mk x8.params (k3 + 1) x8.captures x8.instrs)).length) 0 rfl (vle_eq (congrArg (V.hsl 0 0) (by simp))) rfl) ?_
    refine aops_nil ?_
    refine at_seq ?_
    refine at_keep [0, 1, 5] rfl ?_
    refine at_region ?_
    refine sxk 1 tabOK rfl ?_
    obtain ⟨hb, hF⟩ := chk_some hF
    refine s_add tabOK rfl rfl rfl hb rfl ?_
    refine sxk 1 tabOK rfl ?_
    refine aops_nil ?_
    refine at_seq ?_
    refine at_region ?_
    refine sxk 3 tabOK rfl ?_
    obtain ⟨x9, hn_x9, hF⟩ := bnd_some hF
    refine sv rfl (oc_haddr cCode hn_x9 tabOK rfl rfl rfl rfl) rfl ?_
    refine sv rfl (oc_hfield tabOK rfl rfl rfl rfl (by simp)) rfl ?_
    refine sc_store cCode (v' := (PCode.mk x9.params x9.slots ((k3 + 1) + 1) x9.instrs)) hn_x9 tabOK rfl rfl rfl rfl rfl rfl rfl rfl ?_
    refine ops_le (le_slot (y := .hsl 0 0 (((a5.set i4.toNat (PCode.mk k3 x7.slots x7.captures x7.instrs)).set i4.toNat (PCode.mk x8.params (k3 + 1) x8.captures x8.instrs)).set i4.toNat (PCode.mk x9.params x9.slots ((k3 + 1) + 1) x9.instrs)).length) 0 rfl (vle_eq (congrArg (V.hsl 0 0) (by simp))) rfl) ?_
    refine aops_nil ?_
    refine at_seq ?_
    refine at_keep [0, 1, 5] rfl ?_
    refine at_region ?_
    refine sxk 1 tabOK rfl ?_
    obtain ⟨hb, hF⟩ := chk_some hF
    refine s_add tabOK rfl rfl rfl hb rfl ?_
    refine sxk 1 tabOK rfl ?_
    refine aops_nil ?_
    refine at_region ?_
    refine sxk 2 tabOK rfl ?_
    obtain ⟨x10, hn_x10, hF⟩ := bnd_some hF
    refine sv rfl (oc_haddr cCode hn_x10 tabOK rfl rfl rfl rfl) rfl ?_
    refine sv rfl (oc_hfield tabOK rfl rfl rfl rfl (by simp)) rfl ?_
    refine ops_le (le_openN 0 i4.toNat x10.instrs.length [.int .i64 x10.params, .int .i64 x10.slots, .int .i64 x10.captures] [] rfl rfl rfl (cCode.at2 hn_x10) (len_map _ _) rfl rfl) ?_
    refine sv rfl (oc_loadx cCode (l := 2) hn_x10 tabOK rfl rfl rfl rfl) rfl ?_
    refine sxk 1 tabOK rfl ?_
    obtain ⟨x11, hx11, hF⟩ := bnd_some hF
    obtain ⟨hb_x11, hF⟩ := chk_some hF
    refine call_lend1 3 (w_markInstrS_ok x10.instrs (((k3 + 1) + 1) + 1) x11 hx11) rfl (rnL_cons rfl (rnL_cons rfl rnL_nil)) rfl (Cd.rnR cInstr _ x10.instrs rfl) (rn_of_rl _ rfl) (Cd.rnR cInstr _ x11.2 rfl) rfl ?_
    refine ops_le (le_closeN 0 3 i4.toNat x10.instrs.length [.int .i64 x10.params, .int .i64 x10.slots, .int .i64 x10.captures] [] rfl rfl rfl rfl rfl ((len_map _ _).trans hb_x11) (cCode.atx _ hn_x10) (Cd.dps0 cInstr 2 (fun _ => rfl) _) rfl rfl) ?_
    refine ops_le (le_rows 0 (rows' := ((((a5.set i4.toNat (PCode.mk k3 x7.slots x7.captures x7.instrs)).set i4.toNat (PCode.mk x8.params (k3 + 1) x8.captures x8.instrs)).set i4.toNat (PCode.mk x9.params x9.slots ((k3 + 1) + 1) x9.instrs)).set i4.toNat (PCode.mk x10.params x10.slots x10.captures x11.2)).map (cCode.enc 2)) rfl ((set_set' _ _ _ _).trans (cCode.setx (((a5.set i4.toNat (PCode.mk k3 x7.slots x7.captures x7.instrs)).set i4.toNat (PCode.mk x8.params (k3 + 1) x8.captures x8.instrs)).set i4.toNat (PCode.mk x9.params x9.slots ((k3 + 1) + 1) x9.instrs)) i4.toNat (PCode.mk x10.params x10.slots x10.captures x11.2))) rfl) ?_
    refine ops_le (le_slot (y := .hsl 0 0 ((((a5.set i4.toNat (PCode.mk k3 x7.slots x7.captures x7.instrs)).set i4.toNat (PCode.mk x8.params (k3 + 1) x8.captures x8.instrs)).set i4.toNat (PCode.mk x9.params x9.slots ((k3 + 1) + 1) x9.instrs)).set i4.toNat (PCode.mk x10.params x10.slots x10.captures x11.2)).length) 0 rfl (vle_eq (congrArg (V.hsl 0 0) (by simp))) rfl) ?_
    refine sxk 1 tabOK rfl ?_
    refine aops_nil ?_
    refine bk_n ?_
    refine at_keep [0, 1, 5] rfl ?_
    refine at_region ?_
    refine sxk 1 tabOK rfl ?_
    obtain ⟨hb, hF⟩ := chk_some hF
    refine s_add tabOK rfl rfl rfl hb rfl ?_
    refine sxk 1 tabOK rfl ?_
    refine aops_nil ?_
    exact arr_loop ⟨(x11.1, (i4 + 1), ((((a5.set i4.toNat (PCode.mk k3 x7.slots x7.captures x7.instrs)).set i4.toNat (PCode.mk x8.params (k3 + 1) x8.captures x8.instrs)).set i4.toNat (PCode.mk x9.params x9.slots ((k3 + 1) + 1) x9.instrs)).set i4.toNat (PCode.mk x10.params x10.slots x10.captures x11.2))), hF, (le_down (down_all (ee_cons rfl rfl (Nat.le_of_ble_eq_true rfl) (ee_cons rfl rfl rfl (ee_cons rfl rfl rfl ee_nil))) (he_cons rfl rfl rfl (cCode.rows_ok _ rfl) he_nil) rfl rfl rfl rfl))⟩
  · refine at_exit ?_
    refine tk_x ?_
    refine ll_x ?_
    refine bk_hit ?_
    refine at_seq ?_
    refine at_region ?_
    refine sxk 2 tabOK rfl ?_
    refine aops_nil ?_
    refine at_ret ?_
    obtain rfl := Option.some.inj hF
    exact ret_lent rfl ((vle_refl _)) rfl

theorem w_markImage_ok (a : PImage) (k : Int) (q : Int × List PCode) (hF : w_markImage a k = some q) : FC Try.prog 46 [.agg [.hsl 0 0 a.codes.length, .int .i64 a.main], .int .i64 k] [(0, ⟨4, a.codes.map (cCode.enc 2)⟩)] 3 (fun x h2 => x = .int .i64 q.1 ∧ hget h2 0 = some ⟨4, q.2.map (cCode.enc 2)⟩) := by
  refine FC.of_le_lent ?_
  refine fc_body tabOK Try.func46 rfl Try.ntmps46 rfl rfl rfl ?_
  unfold w_markImage at hF
  refine at_seq ?_
  refine at_region ?_
  refine sxk 2 tabOK rfl ?_
  refine aops_nil ?_
  refine at_seq ?_
  refine at_region ?_
  refine sxk 3 tabOK rfl ?_
  obtain ⟨x3, hx3, hF⟩ := bnd_some hF
  obtain ⟨hb_x3, hF⟩ := chk_some hF
  refine call_lend1 0 (w_markCodeS_ok a.codes k x3 hx3) rfl (rnL_cons rfl (rnL_cons rfl rnL_nil)) rfl (Cd.rnR cCode _ a.codes rfl) (rn_of_rl _ rfl) (Cd.rnR cCode _ x3.2 rfl) rfl ?_
  refine sxk 1 tabOK rfl ?_
  refine aops_nil ?_
  refine at_seq ?_
  refine at_keep [1] rfl ?_
  refine at_region ?_
  refine sxk 2 tabOK rfl ?_
  refine aops_nil ?_
  refine at_ret ?_
  obtain rfl := Option.some.inj hF
  exact ret_lent rfl ((vle_refl _)) rfl

theorem w_FnExactStackDepths_ok (aM : PImage) (aCode : Int) (q : Bool) (hF : w_FnExactStackDepths aM aCode = some q) : FC Try.prog 10 [.agg (cImage.row 0 aM), .int .i64 aCode] [] 3 (fun x _ => x = .bool q) := by
  refine FC.of_le ?_
  refine fc_body tabOK Try.func10 rfl Try.ntmps10 rfl rfl rfl ?_
  unfold w_FnExactStackDepths at hF
  refine at_seq ?_
  refine at_region ?_
  refine sxk 2 tabOK rfl ?_
  refine aops_nil ?_
  refine at_seq ?_
  refine at_region ?_
  refine sxk 1 tabOK rfl ?_
  refine aops_nil ?_
  refine at_seq ?_
  refine at_region ?_
  refine sxk 2 tabOK rfl ?_
  obtain ⟨x3, hx3, hF⟩ := bnd_some hF
  refine call_eq (w_szImage_ok aM 1048576 x3 hx3) rfl ((rlL_cons (cImage.rl_agg (l := 0) (l' := 0) _ aM rfl) (rlL_cons (rfl) rlL_nil))) rfl rfl ?_
  refine sxk 1 tabOK rfl ?_
  refine aops_nil ?_
  refine at_seq ?_
  refine at_seq ?_
  refine at_region ?_
  refine sxk 2 tabOK rfl ?_
  refine aops_nil ?_
  refine ct_if hF rfl (fun hc hF => ?_) (fun hc hF => ?_)
  · refine at_seq ?_
    refine at_keep [] rfl ?_
    refine at_region ?_
    refine sxk 1 tabOK rfl ?_
    refine aops_nil ?_
    refine at_ret ?_
    refine tk_r ?_
    obtain rfl := Option.some.inj hF
    refine ret_le rfl ?_
    exact (vle_refl _)
  · refine at_skip ?_
    refine at_seq ?_
    refine at_keep [1, 2] rfl ?_
    refine at_region ?_
    refine sxk 1 tabOK rfl ?_
    obtain ⟨x4, hx4, hF⟩ := bnd_some hF
    refine call_eq (w_toImage_ok aM x4 hx4) rfl ((rlL_cons (cImage.rl_agg (l := 0) (l' := 0) _ aM rfl) rlL_nil)) (cImage.rl_agg (l := 1) (l' := 1) _ x4 rfl) rfl ?_
    refine sxk 1 tabOK rfl ?_
    obtain ⟨x5, hx5, hF⟩ := bnd_some hF
    refine call_eq (s_StackDepths_ok x4 aCode x5 hx5) rfl ((rlL_cons (cImage.rl_agg (l := 1) (l' := 0) _ x4 rfl) (rlL_cons (rfl) rlL_nil))) (rl_tupL (rlL_cons (cInt.rl_psl (l := 1) (l' := 1) _ x5.1 rfl) (rlL_cons (rfl) rlL_nil))) rfl ?_
    refine sxk 5 tabOK rfl ?_
    refine aops_nil ?_
    refine at_seq ?_
    refine at_keep [1, 2, 6, 7] rfl ?_
    refine at_region ?_
    refine sxk 1 tabOK rfl ?_
    obtain ⟨x6, hx6, hF⟩ := bnd_some hF
    refine call_o1 (w_toImage_own aM x6 hx6) rfl (rdL_cons (rd_rl (cImage.rl_agg (l := 0) (l' := 0) _ aM rfl)) rdL_nil) (Cd.rlR cCode f01 2 _) rfl (fun j => by simp [V.rnA, V.rnAL, V.rl, upJ, dn]) rfl ?_
    refine sxk 1 tabOK rfl ?_
    refine sc_storeX tabOK rfl rfl rfl rfl rfl (one_cons (one_h rfl (by simp)) (one_cons (one_v rfl) one_nil)) rfl rfl rfl ?_
    refine aops_nil ?_
    refine at_seq ?_
    refine at_region ?_
    refine sxk 2 tabOK rfl ?_
    obtain ⟨x7, hx7, hF⟩ := bnd_some hF
    refine call_o1 (i_StackDepths_own x6 aCode x7 hx7) rfl (rdL_cons (rd_agg (rdL_cons (rd_hslD rfl (by simp) rfl (Cd.dps0 cCode 2 (fun _ => rfl) _) (cCode.rlR (fun _ => 0) 2 _)) (rdL_cons (rd_rl (rfl)) rdL_nil))) (rdL_cons (rd_rl (rfl)) rdL_nil)) (Cd.rlR cInt f01 0 _) rfl (fun j => by simp [V.rnA, V.rnAL, V.rl, upJ, dn]) rfl ?_
    refine sxk 5 tabOK rfl ?_
    refine aops_nil ?_
    refine at_seq ?_
    refine at_seq ?_
    refine at_keep [1, 2, 6, 7, 8, 9, 10] rfl ?_
    refine at_region ?_
    refine sxk 2 tabOK rfl ?_
    obtain ⟨x8, hx8, hF⟩ := bnd_some hF
    refine call_rdx (w_eqIntS_ok x7.1 x5.1 x8 hx8) rfl (rdL_cons (rd_hslF rfl (by simp) (cInt.rlR _ 0 _)) (rdL_cons (rd_rl (cInt.rl_psl (l := 1) (l' := 0) _ x5.1 rfl)) rdL_nil)) rfl rfl ?_
    refine sxk 2 tabOK rfl ?_
    refine ops_ifnb (g := 40) hF rfl (fun hc hF => ?_) (fun hc hF => ?_)
    · refine sxk 4 tabOK rfl ?_
      refine aops_nil ?_
      refine at_true rfl ?_
      refine at_seq ?_
      refine at_keep [] rfl ?_
      refine at_region ?_
      refine sxk 1 tabOK rfl ?_
      refine aops_nil ?_
      refine at_ret ?_
      refine tk_r ?_
      obtain rfl := Option.some.inj hF
      refine ret_le rfl ?_
      exact (vle_refl _)
    · refine sxk 2 tabOK rfl ?_
      refine sv rfl (ov_bne tabOK rfl rfl rfl) rfl ?_
      refine sxk 1 tabOK rfl ?_
      refine aops_nil ?_
      refine ct_ifn hF rfl (fun hc hF => ?_) (fun hc hF => ?_)
      · refine at_seq ?_
        refine at_keep [] rfl ?_
        refine at_region ?_
        refine sxk 1 tabOK rfl ?_
        refine aops_nil ?_
        refine at_ret ?_
        refine tk_r ?_
        obtain rfl := Option.some.inj hF
        refine ret_le rfl ?_
        exact (vle_refl _)
      · refine at_skip ?_
        refine at_seq ?_
        refine at_seq ?_
        refine at_keep [1, 2, 6, 7, 8, 9, 10] rfl ?_
        refine at_drawnM (id := 10) 3 (by kernel_rfl) (by kernel_rfl) ?_
        refine nx tabOK rfl ?_
        refine nx tabOK rfl ?_
        obtain ⟨x9, hx9, hF⟩ := bnd_some hF
        refine n_call (w_toImage_ok aM x9 hx9) rfl ((rlL_cons (cImage.rl_agg (l := 0) (l' := 0) _ aM rfl) rlL_nil)) (cImage.rl_agg (l := 1) (l' := 1) _ x9 rfl) rfl ?_
        refine dn_nil rfl ?_
        obtain ⟨x10, hx10, hF⟩ := bnd_some hF
        refine call_rdx (w_eqImage_ok x6 x9 x10 hx10) rfl (rdL_cons (rd_agg (rdL_cons (rd_hslD rfl (by simp) rfl (Cd.dps0 cCode 2 (fun _ => rfl) _) (cCode.rlR (fun _ => 0) 2 _)) (rdL_cons (rd_rl (rfl)) rdL_nil))) (rdL_cons (rd_rl (cImage.rl_agg (l := 1) (l' := 0) _ x9 rfl)) rdL_nil)) rfl rfl ?_
        refine sxk 1 tabOK rfl ?_
        refine aops_nil ?_
        refine ct_bn hF rfl (fun hc hF => ?_) (fun hc hF => ?_)
        · refine at_seq ?_
          refine at_keep [] rfl ?_
          refine at_region ?_
          refine sxk 1 tabOK rfl ?_
          refine aops_nil ?_
          refine at_ret ?_
          refine tk_r ?_
          obtain rfl := Option.some.inj hF
          refine ret_le rfl ?_
          exact (vle_refl _)
        · refine at_skip ?_
          refine at_seq ?_
          refine at_region ?_
          refine sxk 1 tabOK rfl ?_
          refine aops_nil ?_
          refine at_seq ?_
          refine at_region ?_
          refine sxk 2 tabOK rfl ?_
          obtain ⟨x11, hx11, hF⟩ := bnd_some hF
          obtain ⟨hb_x11, hF⟩ := chk_some hF
          refine call_lend1 4 (w_markImage_ok x6 1 x11 hx11) rfl (rnL_cons rfl (rnL_cons rfl rnL_nil)) rfl (Cd.rnR cCode _ x6.codes rfl) (rn_of_rl _ rfl) (Cd.rnR cCode _ x11.2 rfl) rfl ?_
          refine sxk 1 tabOK rfl ?_
          refine aops_nil ?_
          refine at_seq ?_
          refine at_seq ?_
          refine at_keep [1, 2, 6, 7, 9, 10, 11] rfl ?_
          refine at_region ?_
          refine sxk 3 tabOK rfl ?_
          refine ops_if (g := 55) hF rfl (fun hc hF => ?_) (fun hc hF => ?_)
          · refine sxk 10 tabOK rfl ?_
            refine aops_nil ?_
            refine at_true rfl ?_
            refine at_seq ?_
            refine at_keep [] rfl ?_
            refine at_region ?_
            refine sxk 1 tabOK rfl ?_
            refine aops_nil ?_
            refine at_ret ?_
            refine tk_r ?_
            obtain rfl := Option.some.inj hF
            refine ret_le rfl ?_
            exact (vle_refl _)
          · refine sxk 2 tabOK rfl ?_
            obtain ⟨x12, hx12, hF⟩ := bnd_some hF
            refine call_rdx (w_eqIntS_ok x7.1 x5.1 x12 hx12) rfl (rdL_cons (rd_hslF rfl (by simp) (cInt.rlR _ 0 _)) (rdL_cons (rd_rl (cInt.rl_psl (l := 1) (l' := 0) _ x5.1 rfl)) rdL_nil)) rfl rfl ?_
            refine sxk 3 tabOK rfl ?_
            refine ops_ifnb (g := 61) hF rfl (fun hc hF => ?_) (fun hc hF => ?_)
            · refine sxk 4 tabOK rfl ?_
              refine aops_nil ?_
              refine at_true rfl ?_
              refine at_seq ?_
              refine at_keep [] rfl ?_
              refine at_region ?_
              refine sxk 1 tabOK rfl ?_
              refine aops_nil ?_
              refine at_ret ?_
              refine tk_r ?_
              obtain rfl := Option.some.inj hF
              refine ret_le rfl ?_
              exact (vle_refl _)
            · refine sxk 2 tabOK rfl ?_
              refine sv rfl (ov_bne tabOK rfl rfl rfl) rfl ?_
              refine sxk 1 tabOK rfl ?_
              refine aops_nil ?_
              refine ct_ifn hF rfl (fun hc hF => ?_) (fun hc hF => ?_)
              · refine at_seq ?_
                refine at_keep [] rfl ?_
                refine at_region ?_
                refine sxk 1 tabOK rfl ?_
                refine aops_nil ?_
                refine at_ret ?_
                refine tk_r ?_
                obtain rfl := Option.some.inj hF
                refine ret_le rfl ?_
                exact (vle_refl _)
              · refine at_skip ?_
                refine at_seq ?_
                refine at_keep [1, 2, 6, 7, 9] rfl ?_
                refine at_region ?_
                refine sxk 1 tabOK rfl ?_
                refine aops_nil ?_
                refine at_seq ?_
                refine at_region ?_
                refine sxk 2 tabOK rfl ?_
                obtain ⟨x13, hx13, hF⟩ := bnd_some hF
                obtain ⟨hb_x13, hF⟩ := chk_some hF
                refine call_lend1 6 (w_markIntS_ok x7.1 1 x13 hx13) rfl (rnL_cons rfl (rnL_cons rfl rnL_nil)) rfl (Cd.rnR cInt _ x7.1 rfl) (rn_of_rl _ rfl) (Cd.rnR cInt _ x13.2 rfl) rfl ?_
                refine ops_le (le_slot (y := .hsl 6 0 x13.2.length) 9 rfl (vle_eq (congrArg (V.hsl 6 0) hb_x13.symm)) rfl) ?_
                refine sxk 1 tabOK rfl ?_
                refine aops_nil ?_
                refine at_seq ?_
                refine at_region ?_
                refine sxk 1 tabOK rfl ?_
                refine aops_nil ?_
                refine at_seq ?_
                refine at_region ?_
                refine sxk 2 tabOK rfl ?_
                obtain ⟨x14, hx14, hF⟩ := bnd_some hF
                refine call_rdx (w_heldIntS_ok x13.2 1 x14 hx14) rfl (rdL_cons (rd_hslF rfl (by simp) (cInt.rlR _ 0 _)) (rdL_cons (rd_rl (rfl)) rdL_nil)) rfl rfl ?_
                refine sxk 1 tabOK rfl ?_
                refine aops_nil ?_
                refine at_seq ?_
                refine at_seq ?_
                refine at_region ?_
                refine sxk 2 tabOK rfl ?_
                refine aops_nil ?_
                refine ct_if hF rfl (fun hc hF => ?_) (fun hc hF => ?_)
                · refine at_seq ?_
                  refine at_keep [] rfl ?_
                  refine at_region ?_
                  refine sxk 1 tabOK rfl ?_
                  refine aops_nil ?_
                  refine at_ret ?_
                  refine tk_r ?_
                  obtain rfl := Option.some.inj hF
                  refine ret_le rfl ?_
                  exact (vle_refl _)
                · refine at_skip ?_
                  refine at_seq ?_
                  refine at_seq ?_
                  refine at_keep [1, 2, 6, 7, 9, 12, 13] rfl ?_
                  refine at_region ?_
                  refine sxk 3 tabOK rfl ?_
                  refine aops_nil ?_
                  refine ct_ifn hF rfl (fun hc hF => ?_) (fun hc hF => ?_)
                  · refine at_seq ?_
                    refine at_keep [] rfl ?_
                    refine at_region ?_
                    refine sxk 1 tabOK rfl ?_
                    refine aops_nil ?_
                    refine at_ret ?_
                    refine tk_r ?_
                    obtain rfl := Option.some.inj hF
                    refine ret_le rfl ?_
                    exact (vle_refl _)
                  · refine at_skip ?_
                    refine at_seq ?_
                    refine at_region ?_
                    refine sxk 1 tabOK rfl ?_
                    obtain ⟨x15, hx15, hF⟩ := bnd_some hF
                    refine call_eq (w_toImage_ok aM x15 hx15) rfl ((rlL_cons (cImage.rl_agg (l := 0) (l' := 0) _ aM rfl) rlL_nil)) (cImage.rl_agg (l := 1) (l' := 1) _ x15 rfl) rfl ?_
                    refine sxk 1 tabOK rfl ?_
                    obtain ⟨x16, hx16, hF⟩ := bnd_some hF
                    refine call_o1 (i_StackDepths_own x15 aCode x16 hx16) rfl (rdL_cons (rd_rl (cImage.rl_agg (l := 1) (l' := 0) _ x15 rfl)) (rdL_cons (rd_rl (rfl)) rdL_nil)) (Cd.rlR cInt f01 0 _) rfl (fun j => by simp [V.rnA, V.rnAL, V.rl, upJ, dn]) rfl ?_
                    refine sxk 5 tabOK rfl ?_
                    refine aops_nil ?_
                    refine at_seq ?_
                    refine at_seq ?_
                    refine at_keep [6, 7, 9, 12, 14, 15] rfl ?_
                    refine at_region ?_
                    refine sxk 2 tabOK rfl ?_
                    obtain ⟨x17, hx17, hF⟩ := bnd_some hF
                    refine call_rdx (w_eqIntS_ok x16.1 x5.1 x17 hx17) rfl (rdL_cons (rd_hslF rfl (by simp) (cInt.rlR _ 0 _)) (rdL_cons (rd_rl (cInt.rl_psl (l := 1) (l' := 0) _ x5.1 rfl)) rdL_nil)) rfl rfl ?_
                    refine sxk 2 tabOK rfl ?_
                    refine ops_ifnb (g := 88) hF rfl (fun hc hF => ?_) (fun hc hF => ?_)
                    · refine sxk 4 tabOK rfl ?_
                      refine aops_nil ?_
                      refine at_true rfl ?_
                      refine at_seq ?_
                      refine at_keep [] rfl ?_
                      refine at_region ?_
                      refine sxk 1 tabOK rfl ?_
                      refine aops_nil ?_
                      refine at_ret ?_
                      refine tk_r ?_
                      obtain rfl := Option.some.inj hF
                      refine ret_le rfl ?_
                      exact (vle_refl _)
                    · refine sxk 2 tabOK rfl ?_
                      refine sv rfl (ov_bne tabOK rfl rfl rfl) rfl ?_
                      refine sxk 1 tabOK rfl ?_
                      refine aops_nil ?_
                      refine ct_ifn hF rfl (fun hc hF => ?_) (fun hc hF => ?_)
                      · refine at_seq ?_
                        refine at_keep [] rfl ?_
                        refine at_region ?_
                        refine sxk 1 tabOK rfl ?_
                        refine aops_nil ?_
                        refine at_ret ?_
                        refine tk_r ?_
                        obtain rfl := Option.some.inj hF
                        refine ret_le rfl ?_
                        exact (vle_refl _)
                      · refine at_skip ?_
                        refine at_seq ?_
                        refine at_keep [9, 12] rfl ?_
                        refine at_region ?_
                        refine sxk 1 tabOK rfl ?_
                        refine aops_nil ?_
                        refine at_seq ?_
                        refine at_region ?_
                        refine sxk 2 tabOK rfl ?_
                        obtain ⟨x18, hx18, hF⟩ := bnd_some hF
                        refine call_rdx (w_heldIntS_ok x13.2 1 x18 hx18) rfl (rdL_cons (rd_hslF rfl (by simp) (cInt.rlR _ 0 _)) (rdL_cons (rd_rl (rfl)) rdL_nil)) rfl rfl ?_
                        refine sxk 1 tabOK rfl ?_
                        refine aops_nil ?_
                        refine at_seq ?_
                        refine at_seq ?_
                        refine at_region ?_
                        refine sxk 2 tabOK rfl ?_
                        refine aops_nil ?_
                        refine ct_if hF rfl (fun hc hF => ?_) (fun hc hF => ?_)
                        · refine at_seq ?_
                          refine at_keep [] rfl ?_
                          refine at_region ?_
                          refine sxk 1 tabOK rfl ?_
                          refine aops_nil ?_
                          refine at_ret ?_
                          refine tk_r ?_
                          obtain rfl := Option.some.inj hF
                          refine ret_le rfl ?_
                          exact (vle_refl _)
                        · refine at_skip ?_
                          refine at_seq ?_
                          refine at_seq ?_
                          refine at_region ?_
                          refine sxk 3 tabOK rfl ?_
                          refine aops_nil ?_
                          refine ct_ifn hF rfl (fun hc hF => ?_) (fun hc hF => ?_)
                          · refine at_seq ?_
                            refine at_keep [] rfl ?_
                            refine at_region ?_
                            refine sxk 1 tabOK rfl ?_
                            refine aops_nil ?_
                            refine at_ret ?_
                            refine tk_r ?_
                            obtain rfl := Option.some.inj hF
                            refine ret_le rfl ?_
                            exact (vle_refl _)
                          · refine at_skip ?_
                            refine at_seq ?_
                            refine at_keep [] rfl ?_
                            refine at_region ?_
                            refine sxk 1 tabOK rfl ?_
                            refine aops_nil ?_
                            refine at_ret ?_
                            obtain rfl := Option.some.inj hF
                            refine ret_le rfl ?_
                            exact (vle_refl _)

end Go.Proofs.Ytiecdekmiabmkaa
