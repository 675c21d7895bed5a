/-
  The walks: a primitive applied, checked.
-/
import Derived.Test.YtiecdekmiabmkaaWkPrimD
import Derived.Test.YtiecdekmiabmkaaWkPrimE
import Derived.Test.YtiecdekmiabmkaaWkPairs
set_option linter.unusedVariables false
set_option linter.unusedSimpArgs false
namespace Go.Proofs.Ytiecdekmiabmkaa
open Go.Abs
attribute [local irreducible] AT AOps FC DR isPrim arePairs isVal arity applied
set_option maxRecDepth 4000
set_option maxHeartbeats 4000000

theorem ApplyPrimitive_ok (p : Int) (vs : List PVal) (ps : List PPair) (ha : valsSmall vs) (hps : pairsSmall ps) : FC Try.prog 13 [.int .i64 p, .psl 0 3 (vs.map PVal.enc), .psl 0 6 (ps.map PPair.enc)] [] 3 (fun x _ => x = PRes (applyPrim p vs ps)) := by
  have hlen := hps.1
  have hla := ha.1
  have hps' := Hide.mk hps
  clear hps
  have hap : ∀ (hq : isPrim p = true) (hl : (vs.length : Int) = arity p) (hv : vs.all (isVal ps.length) = true), FC Try.prog 57 [.int .i64 p, .psl 0 3 (vs.map PVal.enc), .psl 0 6 (ps.map PPair.enc)] [] 3 (fun x _ => x = PRes (applied p (vs.getD 0 default) (vs.getD 1 default) ps)) := fun hq hl hv => by
    have h1 := isPrim_range hq
    have h2 := arity_range hq
    exact applied_ok p _ (vs.getD 0 default) (vs.getD 1 default) ps h1 (map_get (by show 0 < _; omega)) (fun h => map_get (by show 1 < _; omega)) (isVal_num (isVal_getD hv 0)).1 (isVal_num (isVal_getD hv 0)).2 (isVal_num (isVal_getD hv 1)).2
  refine fc_body tabOK Try.func13 rfl Try.ntmps13 rfl rfl rfl ?_
  repeat' first
    | refine at_seq ?_
    | refine at_region ?_
    | refine aops_nil ?_
    | refine at_skip ?_
    | refine at_block ?_
    | refine sxs tabOK rfl ?_
    | (refine isOps ?_
       first
       | refine call_eq (isPure_ok p) rfl rfl rfl rfl ?_
       | refine call_eq (ArePairs_ok ps hps'.out) rfl (rlL_cons (rl_psl rl_pp rfl) rlL_nil) rfl rfl ?_
       | refine call_eq (ArityOf_ok p) rfl rfl rfl rfl ?_
       | refine sv rfl (ov_build tabOK rfl rfl) rfl ?_
       | (refine isLen ?_; refine sv rfl (ov_mlen tabOK rfl rfl rfl) rfl ?_)
       | (refine isBin ?_
          first
          | refine s_add tabOK rfl rfl rfl (by omega) rfl ?_
          | refine s_sub tabOK rfl rfl rfl (by omega) rfl ?_)
       | refine sx tabOK rfl ?_
       | (refine isGuard ?_
          first
          | refine s_splitT rfl rfl rfl (fun h => ?_) (fun h => ?_)
          | refine s_splitF rfl rfl rfl (fun h => ?_) (fun h => ?_)
          | refine s_splitTn rfl rfl rfl (fun h => ?_) (fun h => ?_)
          | refine s_splitFn rfl rfl rfl (fun h => ?_) (fun h => ?_)
          | refine s_split rfl rfl rfl (fun h => ?_) (fun h => ?_)))
    | (refine isCond ?_
       first
       | refine at_true rfl ?_
       | refine at_false rfl ?_
       | refine at_iftd rfl (fun h => ?_) (fun h => ?_)
       | refine at_iftn rfl (fun h => ?_) (fun h => ?_)
       | refine at_ift rfl (fun h => ?_) (fun h => ?_)
       | refine at_ifd rfl (fun h => ?_) (fun h => ?_)
       | refine at_ifn rfl (fun h => ?_) (fun h => ?_)
       | refine at_cond rfl (fun h => ?_) (fun h => ?_))
    | refine at_ret ?_
    | refine at_exit ?_
    | refine bk_hit ?_
    | refine bk_miss rfl ?_
    | refine ret_eq rfl ?_
  all_goals try first
    | (refine Eq.trans (b := PRes (zeroVal, notPure)) rfl (congrArg PRes ?_); simp_all [applyPrim]; done)
    | (refine Eq.trans (b := PRes (zeroVal, notPure)) rfl (congrArg PRes ?_); simp_all [applyPrim, prim_arity]; done)
    | (refine Eq.trans (b := PRes (zeroVal, wrongNum)) rfl (congrArg PRes ?_); simp_all [applyPrim, prim_arity]; done)
  have hq : isPrim p = true ∧ arePairs ps = true ∧ (vs.length : Int) = arity p := by simp_all [prim_arity]
  obtain ⟨hq, hq2, hl⟩ := hq
  refine at_loop (fun i : Nat => ⟨[(0, .int .i64 p), (1, .psl 0 3 (vs.map PVal.enc)), (2, .psl 0 6 (ps.map PPair.enc)), (6, .ptr 3 1 0 0), (7, .str []), (25, .psl 0 3 (vs.map PVal.enc)), (26, .int .i64 vs.length), (27, .int .i64 i)], [(3, ⟨3, [zeroVal.enc]⟩)], 4, 44, []⟩) (fun i => i ≤ vs.length ∧ (vs.drop i).all (isVal ps.length) = vs.all (isVal ps.length)) (fun i => vs.length - i) 0 ?_ ⟨Nat.zero_le _, rfl⟩ ?_
  · (refine down_all ?_ ?_ rfl rfl rfl rfl
     · repeat' first | exact ee_nil | refine ee_cons rfl (by first | rfl | (refine congrArg (V.int .i64) ?_; omega)) (by first | rfl | exact rl_psl rl_pp rfl | exact rl_psl rl_pv rfl | exact Nat.lt_add_one _ | (show _ < _; omega)) ?_
     · repeat' first | exact he_nil | refine he_cons rfl rfl rfl (row_one (by repeat' first | exact trivial | refine ⟨rfl, ?_⟩)) ?_)
  rintro i ⟨hi, hm⟩
  have hnext : i < vs.length → _ := all_vdrop (f := isVal ps.length)
  have hrow : i < vs.length → (vs.map PVal.enc)[i]? = some (vs.getD i default).enc := map_get
  have hsm : i < vs.length → (vs.getD i default).small := fun h => ha.2 _ (getD_mem h)
  generalize vs.getD i default = v at hnext hrow hsm
  have hend : vs.length ≤ i → vs.all (isVal ps.length) = true := fun h => by rw [← hm, List.drop_eq_nil_of_le h]; rfl
  repeat' first
    | refine at_seq ?_
    | refine at_region ?_
    | refine aops_nil ?_
    | refine at_skip ?_
    | refine at_block ?_
    | refine sxs tabOK rfl ?_
    | (refine isOps ?_
       first
       | refine sv rfl (ov_addr tabOK rfl rfl rfl rfl (by omega) (hrow (by omega))) rfl ?_
       | refine call_eq (isValue_ok v ps.length (by omega) (hsm (by omega))) rfl rfl rfl rfl ?_
       | refine call_eq (hap hq hl (hend (by omega))) rfl (rlL_cons rfl (rlL_cons (rl_psl rl_pv rfl) (rlL_cons (rl_psl rl_pp rfl) rlL_nil))) rfl rfl ?_
       | refine sv rfl (ov_build tabOK rfl rfl) rfl ?_
       | (refine isLen ?_; refine sv rfl (ov_mlen tabOK rfl rfl rfl) rfl ?_)
       | (refine isBin ?_
          first
          | refine s_add tabOK rfl rfl rfl (by omega) rfl ?_
          | refine s_sub tabOK rfl rfl rfl (by omega) rfl ?_)
       | refine sx tabOK rfl ?_
       | (refine isGuard ?_
          first
          | refine s_splitT rfl rfl rfl (fun h => ?_) (fun h => ?_)
          | refine s_splitF rfl rfl rfl (fun h => ?_) (fun h => ?_)
          | refine s_splitTn rfl rfl rfl (fun h => ?_) (fun h => ?_)
          | refine s_splitFn rfl rfl rfl (fun h => ?_) (fun h => ?_)
          | refine s_split rfl rfl rfl (fun h => ?_) (fun h => ?_)))
    | (refine isCond ?_
       first
       | refine at_true rfl ?_
       | refine at_false rfl ?_
       | refine at_iftd rfl (fun h => ?_) (fun h => ?_)
       | refine at_iftn rfl (fun h => ?_) (fun h => ?_)
       | refine at_ift rfl (fun h => ?_) (fun h => ?_)
       | refine at_ifd rfl (fun h => ?_) (fun h => ?_)
       | refine at_ifn rfl (fun h => ?_) (fun h => ?_)
       | refine at_cond rfl (fun h => ?_) (fun h => ?_))
    | refine at_ret ?_
    | refine at_exit ?_
    | refine bk_hit ?_
    | refine bk_miss rfl ?_
    | refine ret_eq rfl ?_
  · refine Eq.trans (b := PRes (zeroVal, notValue)) rfl (congrArg PRes ?_)
    have h1 : isVal ps.length v = false := by simpa using h
    have h2 : vs.all (isVal ps.length) = false := by rw [← hm, hnext (by omega), h1]; rfl
    simp [applyPrim, hq, hq2, hl, h2]
  · have h1 : isVal ps.length v = true := by simpa using h
    refine ⟨i + 1, ⟨by omega, ?_⟩, by dsimp only; omega, ?_⟩
    · rw [← hm, hnext (by omega), h1, Bool.true_and]
    · (refine down_all ?_ ?_ rfl rfl rfl rfl
       · repeat' first | exact ee_nil | refine ee_cons rfl (by first | rfl | (refine congrArg (V.int .i64) ?_; omega)) (by first | rfl | exact rl_psl rl_pp rfl | exact rl_psl rl_pv rfl | exact Nat.lt_add_one _ | (show _ < _; omega)) ?_
       · repeat' first | exact he_nil | refine he_cons rfl rfl rfl (row_one (by repeat' first | exact trivial | refine ⟨rfl, ?_⟩)) ?_)
  · refine Eq.trans (b := PRes (applied p (vs.getD 0 default) (vs.getD 1 default) ps)) rfl (congrArg PRes ?_)
    simp [applyPrim, hq, hq2, hl, hend (by omega)]

theorem sApplyPrimitive_ok (p : Int) (vs : List PVal) (ps : List PPair) (ha : valsSmall vs) (hps : pairsSmall ps) : FC Try.prog 29 [.int .i64 p, .psl 0 3 (vs.map PVal.enc), .psl 0 6 (ps.map PPair.enc)] [] 3 (fun x _ => x = PRes (applyPrim p vs ps)) := by
  have hlen := hps.1
  have hla := ha.1
  have hps' := Hide.mk hps
  clear hps
  have hap : ∀ (hq : isPrim p = true) (hl : (vs.length : Int) = arity p) (hv : vs.all (isVal ps.length) = true), FC Try.prog 68 [.int .i64 p, .psl 0 3 (vs.map PVal.enc), .psl 0 6 (ps.map PPair.enc)] [] 3 (fun x _ => x = PRes (applied p (vs.getD 0 default) (vs.getD 1 default) ps)) := fun hq hl hv => by
    have h1 := isPrim_range hq
    have h2 := arity_range hq
    exact l8Apply_ok p _ (vs.getD 0 default) (vs.getD 1 default) ps h1 (map_get (by show 0 < _; omega)) (fun h => map_get (by show 1 < _; omega)) (isVal_num (isVal_getD hv 0)).1 (isVal_num (isVal_getD hv 0)).2 (isVal_num (isVal_getD hv 1)).2
  refine fc_body tabOK Try.func29 rfl Try.ntmps29 rfl rfl rfl ?_
  repeat' first
    | refine at_seq ?_
    | refine at_region ?_
    | refine aops_nil ?_
    | refine at_skip ?_
    | refine at_block ?_
    | refine sxs tabOK rfl ?_
    | (refine isOps ?_
       first
       | refine call_eq (sArePairs_ok ps hps'.out) rfl (rlL_cons (rl_psl rl_pp rfl) rlL_nil) rfl rfl ?_
       | refine call_eq (spec_ArityOf_ok p) rfl rfl rfl rfl ?_
       | refine sv rfl (ov_build tabOK rfl rfl) rfl ?_
       | (refine isLen ?_; refine sv rfl (ov_mlen tabOK rfl rfl rfl) rfl ?_)
       | (refine isBin ?_
          first
          | refine s_add tabOK rfl rfl rfl (by omega) rfl ?_
          | refine s_sub tabOK rfl rfl rfl (by omega) rfl ?_)
       | refine sx tabOK rfl ?_
       | (refine isGuard ?_
          first
          | refine s_splitT rfl rfl rfl (fun h => ?_) (fun h => ?_)
          | refine s_splitF rfl rfl rfl (fun h => ?_) (fun h => ?_)
          | refine s_splitTn rfl rfl rfl (fun h => ?_) (fun h => ?_)
          | refine s_splitFn rfl rfl rfl (fun h => ?_) (fun h => ?_)
          | refine s_split rfl rfl rfl (fun h => ?_) (fun h => ?_)))
    | (refine isCond ?_
       first
       | refine at_true rfl ?_
       | refine at_false rfl ?_
       | refine at_iftd rfl (fun h => ?_) (fun h => ?_)
       | refine at_iftn rfl (fun h => ?_) (fun h => ?_)
       | refine at_ift rfl (fun h => ?_) (fun h => ?_)
       | refine at_ifd rfl (fun h => ?_) (fun h => ?_)
       | refine at_ifn rfl (fun h => ?_) (fun h => ?_)
       | refine at_cond rfl (fun h => ?_) (fun h => ?_))
    | refine at_ret ?_
    | refine at_exit ?_
    | refine bk_hit ?_
    | refine bk_miss rfl ?_
    | refine ret_eq rfl ?_
  all_goals try first
    | (refine Eq.trans (b := PRes (zeroVal, notPure)) rfl (congrArg PRes ?_); simp_all [applyPrim]; done)
    | (refine Eq.trans (b := PRes (zeroVal, notPure)) rfl (congrArg PRes ?_); simp_all [applyPrim, prim_arity]; done)
    | (refine Eq.trans (b := PRes (zeroVal, wrongNum)) rfl (congrArg PRes ?_); simp_all [applyPrim, prim_arity]; done)
  have hq : isPrim p = true ∧ arePairs ps = true ∧ (vs.length : Int) = arity p := by simp_all [prim_arity]
  obtain ⟨hq, hq2, hl⟩ := hq
  refine at_loop (fun i : Nat => ⟨[(0, .int .i64 p), (1, .psl 0 3 (vs.map PVal.enc)), (2, .psl 0 6 (ps.map PPair.enc)), (6, .ptr 3 1 0 0), (7, .str []), (33, .psl 0 3 (vs.map PVal.enc)), (34, .int .i64 vs.length), (35, .int .i64 i)], [(3, ⟨3, [zeroVal.enc]⟩)], 4, 52, []⟩) (fun i => i ≤ vs.length ∧ (vs.drop i).all (isVal ps.length) = vs.all (isVal ps.length)) (fun i => vs.length - i) 0 ?_ ⟨Nat.zero_le _, rfl⟩ ?_
  · (refine down_all ?_ ?_ rfl rfl rfl rfl
     · repeat' first | exact ee_nil | refine ee_cons rfl (by first | rfl | (refine congrArg (V.int .i64) ?_; omega)) (by first | rfl | exact rl_psl rl_pp rfl | exact rl_psl rl_pv rfl | exact Nat.lt_add_one _ | (show _ < _; omega)) ?_
     · repeat' first | exact he_nil | refine he_cons rfl rfl rfl (row_one (by repeat' first | exact trivial | refine ⟨rfl, ?_⟩)) ?_)
  rintro i ⟨hi, hm⟩
  have hnext : i < vs.length → _ := all_vdrop (f := isVal ps.length)
  have hrow : i < vs.length → (vs.map PVal.enc)[i]? = some (vs.getD i default).enc := map_get
  have hsm : i < vs.length → (vs.getD i default).small := fun h => ha.2 _ (getD_mem h)
  generalize vs.getD i default = v at hnext hrow hsm
  have hend : vs.length ≤ i → vs.all (isVal ps.length) = true := fun h => by rw [← hm, List.drop_eq_nil_of_le h]; rfl
  repeat' first
    | refine at_seq ?_
    | refine at_region ?_
    | refine aops_nil ?_
    | refine at_skip ?_
    | refine at_block ?_
    | refine sxs tabOK rfl ?_
    | (refine isOps ?_
       first
       | refine sv rfl (ov_addr tabOK rfl rfl rfl rfl (by omega) (hrow (by omega))) rfl ?_
       | refine call_eq (l8Value_ok v ps.length (by omega) (hsm (by omega))) rfl rfl rfl rfl ?_
       | refine call_eq (hap hq hl (hend (by omega))) rfl (rlL_cons rfl (rlL_cons (rl_psl rl_pv rfl) (rlL_cons (rl_psl rl_pp rfl) rlL_nil))) rfl rfl ?_
       | refine sv rfl (ov_build tabOK rfl rfl) rfl ?_
       | (refine isLen ?_; refine sv rfl (ov_mlen tabOK rfl rfl rfl) rfl ?_)
       | (refine isBin ?_
          first
          | refine s_add tabOK rfl rfl rfl (by omega) rfl ?_
          | refine s_sub tabOK rfl rfl rfl (by omega) rfl ?_)
       | refine sx tabOK rfl ?_
       | (refine isGuard ?_
          first
          | refine s_splitT rfl rfl rfl (fun h => ?_) (fun h => ?_)
          | refine s_splitF rfl rfl rfl (fun h => ?_) (fun h => ?_)
          | refine s_splitTn rfl rfl rfl (fun h => ?_) (fun h => ?_)
          | refine s_splitFn rfl rfl rfl (fun h => ?_) (fun h => ?_)
          | refine s_split rfl rfl rfl (fun h => ?_) (fun h => ?_)))
    | (refine isCond ?_
       first
       | refine at_true rfl ?_
       | refine at_false rfl ?_
       | refine at_iftd rfl (fun h => ?_) (fun h => ?_)
       | refine at_iftn rfl (fun h => ?_) (fun h => ?_)
       | refine at_ift rfl (fun h => ?_) (fun h => ?_)
       | refine at_ifd rfl (fun h => ?_) (fun h => ?_)
       | refine at_ifn rfl (fun h => ?_) (fun h => ?_)
       | refine at_cond rfl (fun h => ?_) (fun h => ?_))
    | refine at_ret ?_
    | refine at_exit ?_
    | refine bk_hit ?_
    | refine bk_miss rfl ?_
    | refine ret_eq rfl ?_
  · refine Eq.trans (b := PRes (zeroVal, notValue)) rfl (congrArg PRes ?_)
    have h1 : isVal ps.length v = false := by simpa using h
    have h2 : vs.all (isVal ps.length) = false := by rw [← hm, hnext (by omega), h1]; rfl
    simp [applyPrim, hq, hq2, hl, h2]
  · have h1 : isVal ps.length v = true := by simpa using h
    refine ⟨i + 1, ⟨by omega, ?_⟩, by dsimp only; omega, ?_⟩
    · rw [← hm, hnext (by omega), h1, Bool.true_and]
    · (refine down_all ?_ ?_ rfl rfl rfl rfl
       · repeat' first | exact ee_nil | refine ee_cons rfl (by first | rfl | (refine congrArg (V.int .i64) ?_; omega)) (by first | rfl | exact rl_psl rl_pp rfl | exact rl_psl rl_pv rfl | exact Nat.lt_add_one _ | (show _ < _; omega)) ?_
       · repeat' first | exact he_nil | refine he_cons rfl rfl rfl (row_one (by repeat' first | exact trivial | refine ⟨rfl, ?_⟩)) ?_)
  · refine Eq.trans (b := PRes (applied p (vs.getD 0 default) (vs.getD 1 default) ps)) rfl (congrArg PRes ?_)
    simp [applyPrim, hq, hq2, hl, hend (by omega)]

end Go.Proofs.Ytiecdekmiabmkaa
