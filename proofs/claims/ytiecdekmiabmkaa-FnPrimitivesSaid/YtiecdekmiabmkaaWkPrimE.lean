/-
  The walks: primitives applied, the reference's.
-/
import Derived.Test.YtiecdekmiabmkaaWkPrimC
set_option linter.unusedVariables false
set_option linter.unusedSimpArgs false
namespace Go.Proofs.Ytiecdekmiabmkaa
open Go.Abs
attribute [local irreducible] AT AOps FC DR
set_option maxRecDepth 4000
set_option maxHeartbeats 4000000

theorem veq25' : VEq Try.prog 25 := ⟨Try.eqGuardType25, Try.stoodInHeld25, _, _, _, Try.underlying25, by decide, by decide, by decide, rfl, rfl, rfl, Try.underlying3, Try.underlying3, Try.underlying9⟩

attribute [local irreducible] primRows in
theorem l8Apply_ok (p : Int) (rows : List (List V)) (a b : PVal) (ps : List PPair) (hp : 0 ≤ p ∧ p ≤ 12 ∧ p ≠ 5) (h0 : rows[(0 : Int).toNat]? = some a.enc) (h1 : p ≤ 4 ∨ p = 11 → rows[(1 : Int).toNat]? = some b.enc)
    (h7 : a.kind = 7 → 0 ≤ a.number ∧ a.number < ps.length) (hna : a.kind = 3 → -999999999 ≤ a.number ∧ a.number ≤ 999999999) (hnb : b.kind = 3 → -999999999 ≤ b.number ∧ b.number ≤ 999999999) :
    FC Try.prog 68 [.int .i64 p, .psl 0 3 rows, .psl 0 6 (ps.map PPair.enc)] [] 3 (fun x _ => x = PRes (applied p a b ps)) := by
  have hpr : primRows.length = 14 := primRows_len
  have hp13 : 0 ≤ p ∧ p ≤ 13 := by omega
  have hrow := prim_row hp13
  have hnl := prim_short hp13
  have hbad : badP p = (zeroVal, primTexts.getD p.toNat [] ++ badArg) := rfl
  generalize primTexts.getD p.toNat [] = nm at hrow hbad hnl
  have hna' := Hide.mk hna
  have hnb' := Hide.mk hnb
  have h7' := Hide.mk h7
  clear h7 hna hnb
  refine fc_body tabOK Try.func68 rfl Try.ntmps68 rfl rfl rfl ?_
  repeat' first
    | refine at_drawn' (id := 11) 10 (by kernel_rfl) (by kernel_rfl) ?_
    | refine at_drawn' (id := 26) 4 (by kernel_rfl) (by kernel_rfl) ?_
    | refine at_seq ?_
    | refine at_region ?_
    | refine aops_nil ?_
    | refine at_skip ?_
    | refine at_block ?_
    | (refine isDR ?_
       first
       | refine dv rfl (ov_addr tabOK rfl rfl rfl rfl (by decide) (h1 (by omega))) rfl ?_
       | refine dv rfl (ov_veq veq25' rfl rfl) rfl ?_
       | refine d_call (l8Bool_ok _) rfl rfl rfl rfl ?_
       | refine d_call (l8Numbers_ok p a.number b.number (by omega) (hna'.out (by omega)) (hnb'.out (by omega))) rfl rfl rfl rfl ?_
       | refine dx tabOK rfl ?_
       | refine dr_nil ?_)
    | (refine isBin ?_
       first
       | refine sv rfl (ov_veq veq25' rfl rfl) rfl ?_)
    | refine sxs tabOK rfl ?_
    | (refine isOps ?_
       first
       | refine call_eq (l8Numbers_ok p a.number b.number (by omega) (hna'.out (by omega)) (hnb'.out (by omega))) rfl rfl rfl rfl ?_
       | refine call_eq sPrimitiveNames_ok rfl rfl rl_prim rfl ?_
       | refine sv rfl (ov_addr tabOK rfl rfl rfl rfl (by omega) hrow) rfl ?_
       | refine sv rfl (ov_addr tabOK rfl rfl rfl rfl (by decide) h0) rfl ?_
       | refine sv rfl (ov_addr tabOK rfl rfl rfl rfl (by decide) (h1 (by omega))) rfl ?_
       | refine sv rfl (ov_addr tabOK rfl rfl rfl rfl (by have := h7'.out (by omega); omega) (map_get (d := default) (by have := h7'.out (by omega); omega))) rfl ?_
       | refine call_eq (l8Bool_ok _) rfl rfl rfl rfl ?_
       | refine call_eq (l8False_ok a) rfl rfl rfl rfl ?_
       | refine sv rfl (ov_build tabOK rfl rfl) rfl ?_
       | refine sv rfl (ov_cat rfl rfl (by show nm.length + 14 ≤ _; omega)) rfl ?_
       | (refine isLen ?_; refine sv rfl (ov_mlen tabOK rfl rfl rfl) rfl ?_)
       | (refine isBin ?_
          first
          | refine s_add tabOK rfl rfl rfl (by omega) rfl ?_
          | refine s_sub tabOK rfl rfl rfl (by omega) rfl ?_)
       | refine sx tabOK rfl ?_
       | (refine isGuard ?_
          first
          | refine s_splitT rfl rfl rfl (fun h => ?_) (fun h => ?_)
          | refine s_splitF rfl rfl rfl (fun h => ?_) (fun h => ?_)
          | refine s_splitTn rfl rfl rfl (fun h => ?_) (fun h => ?_)
          | refine s_splitFn rfl rfl rfl (fun h => ?_) (fun h => ?_)
          | refine s_split rfl rfl rfl (fun h => ?_) (fun h => ?_)))
    | (refine isCond ?_
       first
       | refine at_true rfl ?_
       | refine at_false rfl ?_
       | refine at_iftd rfl (fun h => ?_) (fun h => ?_)
       | refine at_iftn rfl (fun h => ?_) (fun h => ?_)
       | refine at_ift rfl (fun h => ?_) (fun h => ?_)
       | refine at_ifd rfl (fun h => ?_) (fun h => ?_)
       | refine at_ifn rfl (fun h => ?_) (fun h => ?_)
       | refine at_cond rfl (fun h => ?_) (fun h => ?_))
    | refine at_ret ?_
    | refine at_exit ?_
    | refine bk_hit ?_
    | refine bk_miss rfl ?_
    | refine ret_eq rfl ?_
  all_goals first
    | (exfalso; omega)
    | (refine Eq.trans (b := PRes (boolVal (decide _), [])) rfl (congrArg PRes ?_); unfold applied; simp only [hbad]; simp [*]; done)
    | (refine Eq.trans (b := PRes (boolVal (falseVal a), [])) rfl (congrArg PRes ?_); unfold applied; simp only [hbad]; simp [*]; done)
    | (refine Eq.trans (b := PRes (zeroVal, nm ++ badArg)) rfl (congrArg PRes ?_); unfold applied; simp only [hbad]; simp [*]; done)
    | (refine Eq.trans (b := PRes ((ps.getD a.number.toNat default).h, [])) rfl (congrArg PRes ?_); unfold applied; simp only [hbad]; simp [*]; done)
    | (refine Eq.trans (b := PRes ((ps.getD a.number.toNat default).t, [])) rfl (congrArg PRes ?_); unfold applied; simp only [hbad]; simp [*]; done)
    | (refine Eq.trans (b := PRes (numbers p a.number b.number)) rfl (congrArg PRes ?_); unfold applied; simp only [hbad]; simp [*]; done)
    | (have hp12 : p = 12 := by omega
       refine Eq.trans (b := PRes (boolVal (falseVal a), [])) rfl (congrArg PRes ?_); unfold applied; simp only [hbad]; simp [*]; done)

end Go.Proofs.Ytiecdekmiabmkaa
