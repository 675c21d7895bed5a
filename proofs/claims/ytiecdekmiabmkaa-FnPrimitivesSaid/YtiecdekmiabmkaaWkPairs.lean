/-
  The walks: what are pairs; what is a value beside pairs.
-/
import Derived.Test.YtiecdekmiabmkaaWkVal
set_option linter.unusedVariables false
set_option linter.unusedSimpArgs false
namespace Go.Proofs.Ytiecdekmiabmkaa
open Go.Abs
attribute [local irreducible] AT AOps FC isVal arePairs
set_option maxRecDepth 4000
set_option maxHeartbeats 2000000

theorem from_next (ps : List PPair) (i : Nat) (h : i < ps.length) : arePairsFrom i (ps.drop i) = (isVal i (ps.getD i default).h && isVal i (ps.getD i default).t && arePairsFrom ((i + 1 : Nat) : Int) (ps.drop (i + 1))) := by
  rw [drop_cons (d := default) h]; rfl

theorem sArePairs_ok (ps : List PPair) (hp : pairsSmall ps) : FC Try.prog 15 [.psl 0 6 (ps.map PPair.enc)] [] 3 (fun x _ => x = .bool (arePairs ps)) := by
  have hlen := hp.1
  refine fc_body tabOK Try.func15 rfl Try.ntmps15 rfl rfl rfl ?_
  repeat' first
    | refine at_seq ?_
    | refine at_region ?_
    | refine aops_nil ?_
    | refine at_skip ?_
    | refine at_block ?_
    | refine sxs tabOK rfl ?_
    | (refine isOps ?_
       first
       | refine sv rfl (ov_mlen tabOK rfl rfl rfl) rfl ?_
       | (refine isLen ?_; refine sv rfl (ov_mlen tabOK rfl rfl rfl) rfl ?_)
       | (refine isBin ?_
          first
          | refine s_add tabOK rfl rfl rfl (by omega) rfl ?_
          | refine s_sub tabOK rfl rfl rfl (by omega) rfl ?_)
       | refine sx tabOK rfl ?_
       | (refine isGuard ?_
          first
          | refine s_splitT rfl rfl rfl (fun h => ?_) (fun h => ?_)
          | refine s_splitF rfl rfl rfl (fun h => ?_) (fun h => ?_)
          | refine s_splitTn rfl rfl rfl (fun h => ?_) (fun h => ?_)
          | refine s_splitFn rfl rfl rfl (fun h => ?_) (fun h => ?_)
          | refine s_split rfl rfl rfl (fun h => ?_) (fun h => ?_)))
    | (refine isCond ?_
       first
       | refine at_true rfl ?_
       | refine at_false rfl ?_
       | refine at_iftd rfl (fun h => ?_) (fun h => ?_)
       | refine at_iftn rfl (fun h => ?_) (fun h => ?_)
       | refine at_ift rfl (fun h => ?_) (fun h => ?_)
       | refine at_ifd rfl (fun h => ?_) (fun h => ?_)
       | refine at_ifn rfl (fun h => ?_) (fun h => ?_)
       | refine at_cond rfl (fun h => ?_) (fun h => ?_))
    | refine at_ret ?_
    | refine at_exit ?_
    | refine bk_hit ?_
    | refine bk_miss rfl ?_
    | refine ret_eq rfl ?_
  refine at_loop (fun i : Nat => ⟨[(0, .psl 0 6 (ps.map PPair.enc)), (5, .psl 0 6 (ps.map PPair.enc)), (6, .int .i64 ps.length), (7, .int .i64 i)], [], 3, 28, []⟩) (fun i => i ≤ ps.length ∧ arePairsFrom i (ps.drop i) = arePairsFrom 0 ps) (fun i => ps.length - i) 0 ?_ ⟨Nat.zero_le _, rfl⟩ ?_
  · exact down_env (ee_cons rfl rfl (rl_psl rl_pp rfl) (ee_cons rfl rfl (rl_psl rl_pp rfl) (ee_cons rfl rfl rfl (ee_cons rfl rfl rfl ee_nil)))) rfl rfl rfl rfl rfl
  · rintro i ⟨hi, hm⟩
    have hnext : i < ps.length → _ := from_next ps i
    have hrow : i < ps.length → (ps.map PPair.enc)[i]? = some (ps.getD i default).enc := map_get
    have hsm : i < ps.length → (ps.getD i default).h.small ∧ (ps.getD i default).t.small := fun h => hp.2 _ (getD_mem h)
    generalize ps.getD i default = p at hnext hrow hsm
    repeat' first
      | refine at_seq ?_
      | refine at_region ?_
      | refine aops_nil ?_
      | refine at_skip ?_
      | refine at_block ?_
      | refine sxs tabOK rfl ?_
      | (refine isOps ?_
         first
         | refine sv rfl (ov_mlen tabOK rfl rfl rfl) rfl ?_
         | refine sv rfl (ov_addr tabOK rfl rfl rfl rfl (by omega) (hrow (by omega))) rfl ?_
         | refine call_eq (l8Value_ok p.h i (by omega) (hsm (by omega)).1) rfl rfl rfl rfl ?_
         | refine call_eq (l8Value_ok p.t i (by omega) (hsm (by omega)).2) rfl rfl rfl rfl ?_
         | refine s_add tabOK rfl rfl rfl (by omega) rfl ?_
         | (refine isLen ?_; refine sv rfl (ov_mlen tabOK rfl rfl rfl) rfl ?_)
         | (refine isBin ?_
            first
            | refine s_add tabOK rfl rfl rfl (by omega) rfl ?_
            | refine s_sub tabOK rfl rfl rfl (by omega) rfl ?_)
         | refine sx tabOK rfl ?_
         | (refine isGuard ?_
            first
            | refine s_splitT rfl rfl rfl (fun h => ?_) (fun h => ?_)
            | refine s_splitF rfl rfl rfl (fun h => ?_) (fun h => ?_)
            | refine s_splitTn rfl rfl rfl (fun h => ?_) (fun h => ?_)
            | refine s_splitFn rfl rfl rfl (fun h => ?_) (fun h => ?_)
            | refine s_split rfl rfl rfl (fun h => ?_) (fun h => ?_)))
      | (refine isCond ?_
         first
         | refine at_true rfl ?_
         | refine at_false rfl ?_
         | refine at_iftd rfl (fun h => ?_) (fun h => ?_)
         | refine at_iftn rfl (fun h => ?_) (fun h => ?_)
         | refine at_ift rfl (fun h => ?_) (fun h => ?_)
         | refine at_ifd rfl (fun h => ?_) (fun h => ?_)
         | refine at_ifn rfl (fun h => ?_) (fun h => ?_)
         | refine at_cond rfl (fun h => ?_) (fun h => ?_))
      | refine at_ret ?_
      | refine at_exit ?_
      | refine bk_hit ?_
      | refine bk_miss rfl ?_
      | refine ret_eq rfl ?_
    · refine congrArg V.bool ?_
      rename_i h1 h2
      have h3 : isVal i p.h = true := by simpa using h2
      have h4 : isVal i p.t = false := by simpa using h
      have : arePairsFrom 0 ps = false := by rw [← hm, hnext (by omega), h3, h4]; rfl
      rw [arePairs, this, Bool.and_false]
    · rename_i h1 h2
      have h3 : isVal i p.h = true := by simpa using h2
      have h4 : isVal i p.t = true := by simpa using h
      refine ⟨i + 1, ⟨by omega, ?_⟩, by dsimp only; omega, down_env (ee_cons rfl rfl (rl_psl rl_pp rfl) (ee_cons rfl rfl (rl_psl rl_pp rfl) (ee_cons rfl rfl rfl (ee_cons rfl rfl rfl ee_nil)))) rfl rfl rfl rfl rfl⟩
      rw [← hm, hnext (by omega), h3, h4, Bool.true_and, Bool.true_and]
    · refine congrArg V.bool ?_
      have h3 : isVal i p.h = false := by simpa using h
      have : arePairsFrom 0 ps = false := by rw [← hm, hnext (by omega), h3]; rfl
      rw [arePairs, this, Bool.and_false]
    · refine congrArg V.bool ?_
      have : arePairsFrom 0 ps = true := by rw [← hm, List.drop_eq_nil_of_le (by omega)]; rfl
      rw [arePairs, this, Bool.and_true]

theorem ArePairs_ok (ps : List PPair) (hp : pairsSmall ps) : FC Try.prog 17 [.psl 0 6 (ps.map PPair.enc)] [] 3 (fun x _ => x = .bool (arePairs ps)) := by
  have hlen := hp.1
  refine fc_body tabOK Try.func17 rfl Try.ntmps17 rfl rfl rfl ?_
  repeat' first
    | refine at_seq ?_
    | refine at_region ?_
    | refine aops_nil ?_
    | refine at_skip ?_
    | refine at_block ?_
    | refine sxs tabOK rfl ?_
    | (refine isOps ?_
       first
       | refine sv rfl (ov_mlen tabOK rfl rfl rfl) rfl ?_
       | (refine isLen ?_; refine sv rfl (ov_mlen tabOK rfl rfl rfl) rfl ?_)
       | (refine isBin ?_
          first
          | refine s_add tabOK rfl rfl rfl (by omega) rfl ?_
          | refine s_sub tabOK rfl rfl rfl (by omega) rfl ?_)
       | refine sx tabOK rfl ?_
       | (refine isGuard ?_
          first
          | refine s_splitT rfl rfl rfl (fun h => ?_) (fun h => ?_)
          | refine s_splitF rfl rfl rfl (fun h => ?_) (fun h => ?_)
          | refine s_splitTn rfl rfl rfl (fun h => ?_) (fun h => ?_)
          | refine s_splitFn rfl rfl rfl (fun h => ?_) (fun h => ?_)
          | refine s_split rfl rfl rfl (fun h => ?_) (fun h => ?_)))
    | (refine isCond ?_
       first
       | refine at_true rfl ?_
       | refine at_false rfl ?_
       | refine at_iftd rfl (fun h => ?_) (fun h => ?_)
       | refine at_iftn rfl (fun h => ?_) (fun h => ?_)
       | refine at_ift rfl (fun h => ?_) (fun h => ?_)
       | refine at_ifd rfl (fun h => ?_) (fun h => ?_)
       | refine at_ifn rfl (fun h => ?_) (fun h => ?_)
       | refine at_cond rfl (fun h => ?_) (fun h => ?_))
    | refine at_ret ?_
    | refine at_exit ?_
    | refine bk_hit ?_
    | refine bk_miss rfl ?_
    | refine ret_eq rfl ?_
  · refine congrArg V.bool ?_
    have : decide ((ps.length : Int) ≤ 2000) = false := decide_eq_false (by omega)
    rw [arePairs, this, Bool.false_and]
  refine at_loop (fun i : Nat => ⟨[(0, .psl 0 6 (ps.map PPair.enc)), (8, .psl 0 6 (ps.map PPair.enc)), (9, .int .i64 ps.length), (10, .int .i64 i)], [], 3, 28, []⟩) (fun i => i ≤ ps.length ∧ arePairsFrom i (ps.drop i) = arePairsFrom 0 ps) (fun i => ps.length - i) 0 ?_ ⟨Nat.zero_le _, rfl⟩ ?_
  · exact down_env (ee_cons rfl rfl (rl_psl rl_pp rfl) (ee_cons rfl rfl (rl_psl rl_pp rfl) (ee_cons rfl rfl rfl (ee_cons rfl rfl rfl ee_nil)))) rfl rfl rfl rfl rfl
  · rintro i ⟨hi, hm⟩
    have hnext : i < ps.length → _ := from_next ps i
    have hrow : i < ps.length → (ps.map PPair.enc)[i]? = some (ps.getD i default).enc := map_get
    have hsm : i < ps.length → (ps.getD i default).h.small ∧ (ps.getD i default).t.small := fun h => hp.2 _ (getD_mem h)
    generalize ps.getD i default = p at hnext hrow hsm
    repeat' first
      | refine at_seq ?_
      | refine at_region ?_
      | refine aops_nil ?_
      | refine at_skip ?_
      | refine at_block ?_
      | refine sxs tabOK rfl ?_
      | (refine isOps ?_
         first
         | refine sv rfl (ov_mlen tabOK rfl rfl rfl) rfl ?_
         | refine sv rfl (ov_addr tabOK rfl rfl rfl rfl (by omega) (hrow (by omega))) rfl ?_
         | refine call_eq (isValue_ok p.h i (by omega) (hsm (by omega)).1) rfl rfl rfl rfl ?_
         | refine call_eq (isValue_ok p.t i (by omega) (hsm (by omega)).2) rfl rfl rfl rfl ?_
         | refine s_add tabOK rfl rfl rfl (by omega) rfl ?_
         | (refine isLen ?_; refine sv rfl (ov_mlen tabOK rfl rfl rfl) rfl ?_)
         | (refine isBin ?_
            first
            | refine s_add tabOK rfl rfl rfl (by omega) rfl ?_
            | refine s_sub tabOK rfl rfl rfl (by omega) rfl ?_)
         | refine sx tabOK rfl ?_
         | (refine isGuard ?_
            first
            | refine s_splitT rfl rfl rfl (fun h => ?_) (fun h => ?_)
            | refine s_splitF rfl rfl rfl (fun h => ?_) (fun h => ?_)
            | refine s_splitTn rfl rfl rfl (fun h => ?_) (fun h => ?_)
            | refine s_splitFn rfl rfl rfl (fun h => ?_) (fun h => ?_)
            | refine s_split rfl rfl rfl (fun h => ?_) (fun h => ?_)))
      | (refine isCond ?_
         first
         | refine at_true rfl ?_
         | refine at_false rfl ?_
         | refine at_iftd rfl (fun h => ?_) (fun h => ?_)
         | refine at_iftn rfl (fun h => ?_) (fun h => ?_)
         | refine at_ift rfl (fun h => ?_) (fun h => ?_)
         | refine at_ifd rfl (fun h => ?_) (fun h => ?_)
         | refine at_ifn rfl (fun h => ?_) (fun h => ?_)
         | refine at_cond rfl (fun h => ?_) (fun h => ?_))
      | refine at_ret ?_
      | refine at_exit ?_
      | refine bk_hit ?_
      | refine bk_miss rfl ?_
      | refine ret_eq rfl ?_
    · refine congrArg V.bool ?_
      rename_i h1 h2
      have h3 : isVal i p.h = true := by simpa using h2
      have h4 : isVal i p.t = false := by simpa using h
      have : arePairsFrom 0 ps = false := by rw [← hm, hnext (by omega), h3, h4]; rfl
      rw [arePairs, this, Bool.and_false]
    · rename_i h1 h2
      have h3 : isVal i p.h = true := by simpa using h2
      have h4 : isVal i p.t = true := by simpa using h
      refine ⟨i + 1, ⟨by omega, ?_⟩, by dsimp only; omega, down_env (ee_cons rfl rfl (rl_psl rl_pp rfl) (ee_cons rfl rfl (rl_psl rl_pp rfl) (ee_cons rfl rfl rfl (ee_cons rfl rfl rfl ee_nil)))) rfl rfl rfl rfl rfl⟩
      rw [← hm, hnext (by omega), h3, h4, Bool.true_and, Bool.true_and]
    · refine congrArg V.bool ?_
      have h3 : isVal i p.h = false := by simpa using h
      have : arePairsFrom 0 ps = false := by rw [← hm, hnext (by omega), h3]; rfl
      rw [arePairs, this, Bool.and_false]
    · refine congrArg V.bool ?_
      have : arePairsFrom 0 ps = true := by rw [← hm, List.drop_eq_nil_of_le (by omega)]; rfl
      rw [arePairs, this, Bool.and_true]
      exact (decide_eq_true (by omega)).symm

end Go.Proofs.Ytiecdekmiabmkaa
