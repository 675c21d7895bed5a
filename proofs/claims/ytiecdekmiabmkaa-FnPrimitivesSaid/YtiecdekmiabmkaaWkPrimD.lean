/-
  The walks: primitives applied.
-/
import Derived.Test.YtiecdekmiabmkaaWkPrimC
set_option linter.unusedVariables false
set_option linter.unusedSimpArgs false
namespace Go.Proofs.Ytiecdekmiabmkaa
open Go.Abs
attribute [local irreducible] AT AOps FC DR
set_option maxRecDepth 4000
set_option maxHeartbeats 4000000

theorem veq25 : VEq Try.prog 25 := ⟨Try.eqGuardType25, Try.stoodInHeld25, _, _, _, Try.underlying25, by decide, by decide, by decide, rfl, rfl, rfl, Try.underlying3, Try.underlying3, Try.underlying9⟩

attribute [local irreducible] primRows in
theorem applied_ok (p : Int) (rows : List (List V)) (a b : PVal) (ps : List PPair) (hp : 0 ≤ p ∧ p ≤ 12 ∧ p ≠ 5) (h0 : rows[(0 : Int).toNat]? = some a.enc) (h1 : p ≤ 4 ∨ p = 11 → rows[(1 : Int).toNat]? = some b.enc)
    (h7 : a.kind = 7 → 0 ≤ a.number ∧ a.number < ps.length) (hna : a.kind = 3 → -999999999 ≤ a.number ∧ a.number ≤ 999999999) (hnb : b.kind = 3 → -999999999 ≤ b.number ∧ b.number ≤ 999999999) :
    FC Try.prog 57 [.int .i64 p, .psl 0 3 rows, .psl 0 6 (ps.map PPair.enc)] [] 3 (fun x _ => x = PRes (applied p a b ps)) := by
  have hpr : primRows.length = 14 := primRows_len
  have hp13 : 0 ≤ p ∧ p ≤ 13 := by omega
  have hrow := prim_row hp13
  have hnl := prim_short hp13
  have hbad : badP p = (zeroVal, primTexts.getD p.toNat [] ++ badArg) := rfl
  have n8 : TextIs (primTexts.getD p.toNat []) [110, 117, 108, 108, 63] p 8 := ⟨prim_iff hp13 8 (by decide)⟩
  have n9 : TextIs (primTexts.getD p.toNat []) [112, 97, 105, 114, 63] p 9 := ⟨prim_iff hp13 9 (by decide)⟩
  have n10 : TextIs (primTexts.getD p.toNat []) [110, 117, 109, 98, 101, 114, 63] p 10 := ⟨prim_iff hp13 10 (by decide)⟩
  have n12 : TextIs (primTexts.getD p.toNat []) [110, 111, 116] p 12 := ⟨prim_iff hp13 12 (by decide)⟩
  have n11 : TextIs (primTexts.getD p.toNat []) [101, 113, 63] p 11 := ⟨prim_iff hp13 11 (by decide)⟩
  have n6 : TextIs (primTexts.getD p.toNat []) [99, 97, 114] p 6 := ⟨prim_iff hp13 6 (by decide)⟩
  have n7 : TextIs (primTexts.getD p.toNat []) [99, 100, 114] p 7 := ⟨prim_iff hp13 7 (by decide)⟩
  have n3 : TextIs (primTexts.getD p.toNat []) [61] p 3 := ⟨prim_iff hp13 3 (by decide)⟩
  have n4 : TextIs (primTexts.getD p.toNat []) [60] p 4 := ⟨prim_iff hp13 4 (by decide)⟩
  have n0 : TextIs (primTexts.getD p.toNat []) [43] p 0 := ⟨prim_iff hp13 0 (by decide)⟩
  have n1 : TextIs (primTexts.getD p.toNat []) [45] p 1 := ⟨prim_iff hp13 1 (by decide)⟩
  have n2 : TextIs (primTexts.getD p.toNat []) [42] p 2 := ⟨prim_iff hp13 2 (by decide)⟩
  generalize primTexts.getD p.toNat [] = nm at hrow hbad hnl n8 n9 n10 n12 n11 n6 n7 n3 n4 n0 n1 n2
  have hmul : Hide (a.kind = 3 ∧ b.kind = 3 → (-999999999 ≤ a.number ∧ a.number ≤ 999999999) ∧ (-999999999 ≤ b.number ∧ b.number ≤ 999999999) ∧ _) := ⟨fun g => ⟨hna g.1, hnb g.2, mul_bound (hna g.1) (hnb g.2)⟩⟩
  have h7' := Hide.mk h7
  clear h7 hna hnb
  refine fc_body tabOK Try.func57 rfl Try.ntmps57 rfl rfl rfl ?_
  repeat' first
    | refine at_drawn' (id := 13) 4 (by kernel_rfl) (by kernel_rfl) ?_
    | refine at_seq ?_
    | refine at_region ?_
    | refine aops_nil ?_
    | refine at_skip ?_
    | refine at_block ?_
    | (refine isDR ?_
       first
       | refine dv rfl (ov_addr tabOK rfl rfl rfl rfl (by omega) (h1 (by omega))) rfl ?_
       | refine dv rfl (ov_veq veq25 rfl rfl) rfl ?_
       | refine d_call (booleanOf_ok _) rfl rfl rfl rfl ?_
       | refine dx tabOK rfl ?_
       | refine dr_nil ?_)
    | (refine isBin ?_
       first
       | refine sv rfl (ov_veq veq25 rfl rfl) rfl ?_
       | refine sv rfl (ov_siff tabOK rfl rfl (by assumption)) rfl ?_)
    | refine sxs tabOK rfl ?_
    | (refine isOps ?_
       first
       | refine call_eq PrimitiveNames_ok rfl rfl rl_prim rfl ?_
       | refine sv rfl (ov_addr tabOK rfl rfl rfl rfl (by omega) hrow) rfl ?_
       | refine sv rfl (ov_addr tabOK rfl rfl rfl rfl (by decide) h0) rfl ?_
       | refine sv rfl (ov_addr tabOK rfl rfl rfl rfl (by decide) (h1 (by omega))) rfl ?_
       | refine sv rfl (ov_addr tabOK rfl rfl rfl rfl (by have := h7'.out (by omega); omega) (map_get (d := default) (by have := h7'.out (by omega); omega))) rfl ?_
       | refine call_eq (booleanOf_ok _) rfl rfl rfl rfl ?_
       | refine call_eq (isFalse_ok a) rfl rfl rfl rfl ?_
       | refine sv rfl (ov_build tabOK rfl rfl) rfl ?_
       | refine sv rfl (ov_cat rfl rfl (by show nm.length + 14 ≤ _; omega)) rfl ?_
       | refine s_mul tabOK rfl rfl rfl (by have := hmul.out (by omega); omega) rfl ?_
       | refine s_add tabOK rfl rfl rfl (by have := hmul.out (by omega); omega) rfl ?_
       | refine s_sub tabOK rfl rfl rfl (by have := hmul.out (by omega); omega) rfl ?_
       | (refine isLen ?_; refine sv rfl (ov_mlen tabOK rfl rfl rfl) rfl ?_)
       | (refine isBin ?_
          first
          | refine s_add tabOK rfl rfl rfl (by omega) rfl ?_
          | refine s_sub tabOK rfl rfl rfl (by omega) rfl ?_)
       | refine sx tabOK rfl ?_
       | (refine isGuard ?_
          first
          | refine s_splitT rfl rfl rfl (fun h => ?_) (fun h => ?_)
          | refine s_splitF rfl rfl rfl (fun h => ?_) (fun h => ?_)
          | refine s_splitTn rfl rfl rfl (fun h => ?_) (fun h => ?_)
          | refine s_splitFn rfl rfl rfl (fun h => ?_) (fun h => ?_)
          | refine s_split rfl rfl rfl (fun h => ?_) (fun h => ?_)))
    | (refine isCond ?_
       first
       | refine at_true rfl ?_
       | refine at_false rfl ?_
       | refine at_iftd rfl (fun h => ?_) (fun h => ?_)
       | refine at_iftn rfl (fun h => ?_) (fun h => ?_)
       | refine at_ift rfl (fun h => ?_) (fun h => ?_)
       | refine at_ifd rfl (fun h => ?_) (fun h => ?_)
       | refine at_ifn rfl (fun h => ?_) (fun h => ?_)
       | refine at_cond rfl (fun h => ?_) (fun h => ?_))
    | refine at_ret ?_
    | refine at_exit ?_
    | refine bk_hit ?_
    | refine bk_miss rfl ?_
    | refine ret_eq rfl ?_
  all_goals first
    | (exfalso; omega)
    | (refine Eq.trans (b := PRes (boolVal (decide _), [])) rfl (congrArg PRes ?_); unfold applied; simp only [hbad]; simp [*]; done)
    | (refine Eq.trans (b := PRes (boolVal (falseVal a), [])) rfl (congrArg PRes ?_); unfold applied; simp only [hbad]; simp [*]; done)
    | (refine Eq.trans (b := PRes (zeroVal, nm ++ badArg)) rfl (congrArg PRes ?_); unfold applied; simp only [hbad]; simp [*]; done)
    | (refine Eq.trans (b := PRes ((ps.getD a.number.toNat default).h, [])) rfl (congrArg PRes ?_); unfold applied; simp only [hbad]; simp [*]; done)
    | (refine Eq.trans (b := PRes ((ps.getD a.number.toNat default).t, [])) rfl (congrArg PRes ?_); unfold applied; simp only [hbad]; simp [*]; done)
    | (refine Eq.trans (b := PRes (boolVal (decide _), [])) rfl (congrArg PRes ?_); unfold applied numbers; simp only [hbad]; simp [*]; done)
    | (refine Eq.trans (b := PRes (zeroVal, tooLarge)) rfl (congrArg PRes ?_); unfold applied numbers inside; simp only [hbad]; simp [*]; omega)
    | (refine Eq.trans (b := PRes (⟨3, _, []⟩, [])) rfl (congrArg PRes ?_); unfold applied numbers inside; simp only [hbad]; simp [*]; try omega)
    | exact absurd (n6.out.2 (by assumption)) (by assumption)
    | exact absurd (n6.out.1 (by assumption)) (by assumption)

end Go.Proofs.Ytiecdekmiabmkaa
