/-
  The walks: slices of pairs copied and compared.
-/
import Derived.Test.YtiecdekmiabmkaaWkPair
set_option linter.unusedVariables false
set_option linter.unusedSimpArgs false
namespace Go.Proofs.Ytiecdekmiabmkaa
open Go.Abs
attribute [local irreducible] AT AOps FC AQ
set_option maxRecDepth 4000

def pairZero : List V := [.int .i64 0, .int .i64 0, .str [], .int .i64 0, .int .i64 0, .str []]
theorem pair_rows {n : Nat} {ps : List PPair} {i : Nat} : ∀ row ∈ fill PPair.enc pairZero ps i, RowOk n row :=
  fill_ok (fun _ => ⟨rfl, rfl, rfl, rfl, rfl, rfl, trivial⟩) ⟨rfl, rfl, rfl, rfl, rfl, rfl, trivial⟩

theorem toPairS_ok (ps : List PPair) (hp : pairsSmall ps) : FC Try.prog 16 [.psl 0 6 (ps.map PPair.enc)] [] 3 (fun x _ => x = .psl 1 6 (ps.map PPair.enc)) := by
  have hlen := hp.1
  refine fc_body tabOK Try.func16 rfl Try.ntmps16 rfl rfl rfl ?_
  repeat' first
    | refine at_seq ?_
    | refine at_region ?_
    | refine aops_nil ?_
    | refine at_skip ?_
    | refine at_block ?_
    | refine sxs tabOK rfl ?_
    | (refine isOps ?_
       first
       | refine sv rfl (ov_mlen tabOK rfl rfl rfl) rfl ?_
       | refine s_fmake (en := PPair.enc) (l := ps) tabOK rfl rfl rfl rfl ⟨rfl, by decide⟩ ⟨by omega, by omega⟩ rfl ?_
       | (refine isLen ?_; refine sv rfl (ov_mlen tabOK rfl rfl rfl) rfl ?_)
       | (refine isBin ?_
          first
          | refine s_add tabOK rfl rfl rfl (by omega) rfl ?_
          | refine s_sub tabOK rfl rfl rfl (by omega) rfl ?_)
       | refine sx tabOK rfl ?_
       | (refine isGuard ?_
          first
          | refine s_splitT rfl rfl rfl (fun h => ?_) (fun h => ?_)
          | refine s_splitF rfl rfl rfl (fun h => ?_) (fun h => ?_)
          | refine s_splitTn rfl rfl rfl (fun h => ?_) (fun h => ?_)
          | refine s_splitFn rfl rfl rfl (fun h => ?_) (fun h => ?_)
          | refine s_split rfl rfl rfl (fun h => ?_) (fun h => ?_)))
    | (refine isCond ?_
       first
       | refine at_true rfl ?_
       | refine at_false rfl ?_
       | refine at_iftd rfl (fun h => ?_) (fun h => ?_)
       | refine at_iftn rfl (fun h => ?_) (fun h => ?_)
       | refine at_ift rfl (fun h => ?_) (fun h => ?_)
       | refine at_ifd rfl (fun h => ?_) (fun h => ?_)
       | refine at_ifn rfl (fun h => ?_) (fun h => ?_)
       | refine at_cond rfl (fun h => ?_) (fun h => ?_))
    | refine at_ret ?_
    | refine at_exit ?_
    | refine bk_hit ?_
    | refine bk_miss rfl ?_
    | refine ret_eq rfl ?_
  refine at_loop (fun i : Nat => ⟨[(0, .psl 0 6 (ps.map PPair.enc)), (3, .hsl 3 0 ps.length), (4, .int .i64 i)], [(3, ⟨6, fill PPair.enc pairZero ps i⟩)], 4, 23, []⟩) (fun i => i ≤ ps.length) (fun i => ps.length - i) 0 ?_ (Nat.zero_le _) ?_
  · exact down_all (ee_cons rfl rfl (rl_psl rl_pp rfl) (ee_cons rfl rfl (Nat.lt_add_one 3) (ee_cons rfl rfl rfl ee_nil))) (he_cons rfl rfl rfl pair_rows he_nil) rfl rfl rfl rfl
  · intro i hi
    repeat' first
      | refine at_freeze (c := .region 6 _ _) 3 rfl rfl (fill_len hi).symm ?_
      | refine at_seq ?_
      | refine at_region ?_
      | refine aops_nil ?_
      | refine at_skip ?_
      | refine at_block ?_
      | refine sxs tabOK rfl ?_
      | (refine isOps ?_
         first
         | refine sv rfl (ov_mlen tabOK rfl rfl rfl) rfl ?_
         | refine sv rfl (ov_addr tabOK rfl rfl rfl rfl (by omega) (map_get (d := default) (by omega))) rfl ?_
         | refine call_eq (toPair_ok (ps.getD i default)) rfl rfl rfl rfl ?_
         | refine s_add tabOK rfl rfl rfl (by omega) rfl ?_
         | refine sv rfl (ov_faddr (l := ps) (i := i) (j := i) tabOK rfl rfl rfl (by omega) rfl (by omega)) rfl ?_
         | refine s_fstore (l := ps) (i := i) (dv := default) tabOK rfl rfl rfl rfl (by omega) rfl rfl rfl rfl rfl ?_
         | (refine isLen ?_; refine sv rfl (ov_mlen tabOK rfl rfl rfl) rfl ?_)
         | (refine isBin ?_
            first
            | refine s_add tabOK rfl rfl rfl (by omega) rfl ?_
            | refine s_sub tabOK rfl rfl rfl (by omega) rfl ?_)
         | refine sx tabOK rfl ?_
         | (refine isGuard ?_
            first
            | refine s_splitT rfl rfl rfl (fun h => ?_) (fun h => ?_)
            | refine s_splitF rfl rfl rfl (fun h => ?_) (fun h => ?_)
            | refine s_splitTn rfl rfl rfl (fun h => ?_) (fun h => ?_)
            | refine s_splitFn rfl rfl rfl (fun h => ?_) (fun h => ?_)
            | refine s_split rfl rfl rfl (fun h => ?_) (fun h => ?_)))
      | (refine isCond ?_
         first
         | refine at_true rfl ?_
         | refine at_false rfl ?_
         | refine at_iftd rfl (fun h => ?_) (fun h => ?_)
         | refine at_iftn rfl (fun h => ?_) (fun h => ?_)
         | refine at_ift rfl (fun h => ?_) (fun h => ?_)
         | refine at_ifd rfl (fun h => ?_) (fun h => ?_)
         | refine at_ifn rfl (fun h => ?_) (fun h => ?_)
         | refine at_cond rfl (fun h => ?_) (fun h => ?_))
      | refine at_ret ?_
      | refine at_exit ?_
      | refine bk_hit ?_
      | refine bk_miss rfl ?_
      | refine ret_eq rfl ?_
    · exact ⟨i + 1, by dsimp only; omega, by dsimp only; omega, down_all (ee_cons rfl rfl (rl_psl rl_pp rfl) (ee_cons rfl rfl (Nat.lt_add_one 3) (ee_cons rfl rfl rfl ee_nil))) (he_cons rfl rfl rfl pair_rows he_nil) rfl rfl rfl rfl⟩
    · have : i = ps.length := by omega
      subst this
      rw [fill_all]

theorem eqPairS_ok (ps qs : List PPair) (hp : ps.length ≤ 1048576) : FC Try.prog 18 [.psl 0 6 (ps.map PPair.enc), .psl 0 6 (qs.map PPair.enc)] [] 3 (fun x _ => x = .bool (decide (ps = qs))) := by
  refine fc_body tabOK Try.func18 rfl Try.ntmps18 rfl rfl rfl ?_
  repeat' first
    | refine at_drawn' (id := 6) 8 (by kernel_rfl) (by kernel_rfl) ?_
    | refine at_seq ?_
    | refine at_region ?_
    | refine aops_nil ?_
    | refine at_skip ?_
    | refine at_block ?_
    | (refine isDR ?_
       first
       | refine dx tabOK rfl ?_
       | refine dx tabOK rfl ?_
       | refine dr_nil ?_)
    | refine sxs tabOK rfl ?_
    | (refine isOps ?_
       first
       | refine sv rfl (ov_mlen tabOK rfl rfl rfl) rfl ?_
       | (refine isLen ?_; refine sv rfl (ov_mlen tabOK rfl rfl rfl) rfl ?_)
       | (refine isBin ?_
          first
          | refine s_add tabOK rfl rfl rfl (by omega) rfl ?_
          | refine s_sub tabOK rfl rfl rfl (by omega) rfl ?_)
       | refine sx tabOK rfl ?_
       | (refine isGuard ?_
          first
          | refine s_splitT rfl rfl rfl (fun h => ?_) (fun h => ?_)
          | refine s_splitF rfl rfl rfl (fun h => ?_) (fun h => ?_)
          | refine s_splitTn rfl rfl rfl (fun h => ?_) (fun h => ?_)
          | refine s_splitFn rfl rfl rfl (fun h => ?_) (fun h => ?_)
          | refine s_split rfl rfl rfl (fun h => ?_) (fun h => ?_)))
    | (refine isCond ?_
       first
       | refine at_true rfl ?_
       | refine at_false rfl ?_
       | refine at_iftd rfl (fun h => ?_) (fun h => ?_)
       | refine at_iftn rfl (fun h => ?_) (fun h => ?_)
       | refine at_ift rfl (fun h => ?_) (fun h => ?_)
       | refine at_ifd rfl (fun h => ?_) (fun h => ?_)
       | refine at_ifn rfl (fun h => ?_) (fun h => ?_)
       | refine at_cond rfl (fun h => ?_) (fun h => ?_))
    | refine at_ret ?_
    | refine at_exit ?_
    | refine bk_hit ?_
    | refine bk_miss rfl ?_
    | refine ret_eq rfl ?_
  · exact congrArg V.bool (decide_eq_false (fun e => h (by rw [e]))).symm
  have hq : ps.length = qs.length := by omega
  clear h
  refine at_loop (fun i : Nat => ⟨[(0, .psl 0 6 (ps.map PPair.enc)), (1, .psl 0 6 (qs.map PPair.enc)), (5, .int .i64 i)], [], 3, 27, []⟩) (fun i => i ≤ ps.length ∧ ps.take i = qs.take i) (fun i => ps.length - i) 0 ?_ ⟨Nat.zero_le _, rfl⟩ ?_
  · exact down_env (ee_cons rfl rfl (rl_psl rl_pp rfl) (ee_cons rfl rfl (rl_psl rl_pp rfl) (ee_cons rfl rfl rfl ee_nil))) rfl rfl rfl rfl rfl
  · rintro i ⟨hi, hm⟩
    repeat' first
      | refine at_draw (by kernel_rfl) (by kernel_rfl) ?_
      | refine at_seq ?_
      | refine at_region ?_
      | refine aops_nil ?_
      | refine at_skip ?_
      | refine at_block ?_
      | (refine isAQ ?_
         first
         | refine qv rfl (ov_addr tabOK rfl rfl rfl rfl (by omega) (map_get (d := default) (by omega))) rfl ?_
         | refine q_call (eqPair_ok (ps.getD i default) (qs.getD i default)) rfl rfl rfl rfl ?_
         | refine qx tabOK rfl ?_
         | refine aq_nil ?_)
      | refine sxs tabOK rfl ?_
      | (refine isOps ?_
         first
         | refine sv rfl (ov_mlen tabOK rfl rfl rfl) rfl ?_
         | refine s_add tabOK rfl rfl rfl (by omega) rfl ?_
         | (refine isLen ?_; refine sv rfl (ov_mlen tabOK rfl rfl rfl) rfl ?_)
         | (refine isBin ?_
            first
            | refine s_add tabOK rfl rfl rfl (by omega) rfl ?_
            | refine s_sub tabOK rfl rfl rfl (by omega) rfl ?_)
         | refine sx tabOK rfl ?_
         | (refine isGuard ?_
            first
            | refine s_splitT rfl rfl rfl (fun h => ?_) (fun h => ?_)
            | refine s_splitF rfl rfl rfl (fun h => ?_) (fun h => ?_)
            | refine s_splitTn rfl rfl rfl (fun h => ?_) (fun h => ?_)
            | refine s_splitFn rfl rfl rfl (fun h => ?_) (fun h => ?_)
            | refine s_split rfl rfl rfl (fun h => ?_) (fun h => ?_)))
      | (refine isCond ?_
         first
         | refine at_true rfl ?_
         | refine at_false rfl ?_
         | refine at_iftd rfl (fun h => ?_) (fun h => ?_)
         | refine at_iftn rfl (fun h => ?_) (fun h => ?_)
         | refine at_ift rfl (fun h => ?_) (fun h => ?_)
         | refine at_ifd rfl (fun h => ?_) (fun h => ?_)
         | refine at_ifn rfl (fun h => ?_) (fun h => ?_)
         | refine at_cond rfl (fun h => ?_) (fun h => ?_))
      | refine at_ret ?_
      | refine at_exit ?_
      | refine bk_hit ?_
      | refine bk_miss rfl ?_
      | refine ret_eq rfl ?_
    · refine congrArg V.bool (decide_eq_false (fun e => h (by rw [e]))).symm
    · refine ⟨i + 1, ⟨by omega, ?_⟩, by dsimp only; omega, down_env (ee_cons rfl rfl (rl_psl rl_pp rfl) (ee_cons rfl rfl (rl_psl rl_pp rfl) (ee_cons rfl rfl rfl ee_nil))) rfl rfl rfl rfl rfl⟩
      rw [take_next (d := default) (by omega), take_next (d := default) (by omega), hm, h]
    · refine congrArg V.bool (decide_eq_true ?_).symm
      have h1 : i = ps.length := by omega
      have h2 : i = qs.length := by omega
      rw [← List.take_length (l := ps), ← h1, hm, h2, List.take_length]

end Go.Proofs.Ytiecdekmiabmkaa
