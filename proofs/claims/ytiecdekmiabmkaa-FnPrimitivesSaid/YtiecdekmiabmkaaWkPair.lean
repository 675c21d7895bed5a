/-
  The walks: values and pairs.
-/
import Derived.Test.YtiecdekmiabmkaaWkSym
import Derived.Test.YtiecdekmiabmkaaAbsN
set_option linter.unusedVariables false
set_option linter.unusedSimpArgs false
namespace Go.Proofs.Ytiecdekmiabmkaa
open Go.Abs
attribute [local irreducible] AT AOps FC
set_option maxRecDepth 4000

theorem szValue_ok (v : PVal) (n : Int) (hn : 0 ≤ n ∧ n ≤ 1048576) (ht : textOK v.text) : FC Try.prog 19 [.agg v.enc, .int .i64 n] [] 3 (fun x _ => x = .int .i64 (szValue v n)) := by
  unfold textOK at ht
  refine fc_body tabOK Try.func19 rfl Try.ntmps19 rfl rfl rfl ?_
  repeat' first
    | refine at_seq ?_
    | refine at_region ?_
    | refine aops_nil ?_
    | refine at_skip ?_
    | refine at_block ?_
    | refine sxs tabOK rfl ?_
    | (refine isOps ?_
       first
       | refine s_sub tabOK rfl rfl rfl (by omega) rfl ?_
       | (refine isLen ?_; refine sv rfl (ov_mlen tabOK rfl rfl rfl) rfl ?_)
       | (refine isBin ?_
          first
          | refine s_add tabOK rfl rfl rfl (by omega) rfl ?_
          | refine s_sub tabOK rfl rfl rfl (by omega) rfl ?_)
       | refine sx tabOK rfl ?_
       | (refine isGuard ?_
          first
          | refine s_splitT rfl rfl rfl (fun h => ?_) (fun h => ?_)
          | refine s_splitF rfl rfl rfl (fun h => ?_) (fun h => ?_)
          | refine s_splitTn rfl rfl rfl (fun h => ?_) (fun h => ?_)
          | refine s_splitFn rfl rfl rfl (fun h => ?_) (fun h => ?_)
          | refine s_split rfl rfl rfl (fun h => ?_) (fun h => ?_)))
    | (refine isCond ?_
       first
       | refine at_true rfl ?_
       | refine at_false rfl ?_
       | refine at_iftd rfl (fun h => ?_) (fun h => ?_)
       | refine at_iftn rfl (fun h => ?_) (fun h => ?_)
       | refine at_ift rfl (fun h => ?_) (fun h => ?_)
       | refine at_ifd rfl (fun h => ?_) (fun h => ?_)
       | refine at_ifn rfl (fun h => ?_) (fun h => ?_)
       | refine at_cond rfl (fun h => ?_) (fun h => ?_))
    | refine at_ret ?_
    | refine at_exit ?_
    | refine bk_hit ?_
    | refine bk_miss rfl ?_
    | refine ret_eq rfl ?_
  all_goals (refine congrArg (V.int .i64) ?_; unfold szValue)
  · rw [if_pos h]
  · rw [if_neg h]

theorem szPair_ok (p : PPair) (n : Int) (hn : 0 ≤ n ∧ n ≤ 1048576) (hp : p.wf) : FC Try.prog 58 [.agg p.enc, .int .i64 n] [] 3 (fun x _ => x = .int .i64 (szPair p n)) := by
  have hle := szValue_le (v := p.h) hn.1
  refine fc_body tabOK Try.func58 rfl Try.ntmps58 rfl rfl rfl ?_
  repeat' first
    | refine at_seq ?_
    | refine at_region ?_
    | refine aops_nil ?_
    | refine at_skip ?_
    | refine at_block ?_
    | refine sxs tabOK rfl ?_
    | (refine isOps ?_
       first
       | refine call_eq (szValue_ok p.h n hn hp.1.2.2) rfl rfl rfl rfl ?_
       | refine call_eq (szValue_ok p.t (szValue p.h n) (by omega) hp.2.2.2) rfl rfl rfl rfl ?_
       | (refine isLen ?_; refine sv rfl (ov_mlen tabOK rfl rfl rfl) rfl ?_)
       | (refine isBin ?_
          first
          | refine s_add tabOK rfl rfl rfl (by omega) rfl ?_
          | refine s_sub tabOK rfl rfl rfl (by omega) rfl ?_)
       | refine sx tabOK rfl ?_
       | (refine isGuard ?_
          first
          | refine s_splitT rfl rfl rfl (fun h => ?_) (fun h => ?_)
          | refine s_splitF rfl rfl rfl (fun h => ?_) (fun h => ?_)
          | refine s_splitTn rfl rfl rfl (fun h => ?_) (fun h => ?_)
          | refine s_splitFn rfl rfl rfl (fun h => ?_) (fun h => ?_)
          | refine s_split rfl rfl rfl (fun h => ?_) (fun h => ?_)))
    | (refine isCond ?_
       first
       | refine at_true rfl ?_
       | refine at_false rfl ?_
       | refine at_iftd rfl (fun h => ?_) (fun h => ?_)
       | refine at_iftn rfl (fun h => ?_) (fun h => ?_)
       | refine at_ift rfl (fun h => ?_) (fun h => ?_)
       | refine at_ifd rfl (fun h => ?_) (fun h => ?_)
       | refine at_ifn rfl (fun h => ?_) (fun h => ?_)
       | refine at_cond rfl (fun h => ?_) (fun h => ?_))
    | refine at_ret ?_
    | refine at_exit ?_
    | refine bk_hit ?_
    | refine bk_miss rfl ?_
    | refine ret_eq rfl ?_
  all_goals (refine congrArg (V.int .i64) ?_; unfold szPair)
  · rw [if_pos h]
  · rename_i h0
    rw [if_neg h0, if_pos h]
  · rename_i h0
    rw [if_neg h0, if_neg h]

theorem rl_pp {f : Nat → Nat} (p : PPair) : V.rlL f p.enc = p.enc := rfl

theorem szPairS_ok (ps : List PPair) (n : Int) (hn : 0 ≤ n ∧ n ≤ 1048576) (hp : pairsWf ps) : FC Try.prog 14 [.psl 0 6 (ps.map PPair.enc), .int .i64 n] [] 3 (fun x _ => x = .int .i64 (szPairs ps n)) := by
  have hlen := hp.1
  refine fc_body tabOK Try.func14 rfl Try.ntmps14 rfl rfl rfl ?_
  repeat' first
    | refine at_seq ?_
    | refine at_region ?_
    | refine aops_nil ?_
    | refine at_skip ?_
    | refine at_block ?_
    | refine sxs tabOK rfl ?_
    | (refine isOps ?_
       first
       | refine sv rfl (ov_mlen tabOK rfl rfl rfl) rfl ?_
       | refine s_sub tabOK rfl rfl rfl (by omega) rfl ?_
       | (refine isLen ?_; refine sv rfl (ov_mlen tabOK rfl rfl rfl) rfl ?_)
       | (refine isBin ?_
          first
          | refine s_add tabOK rfl rfl rfl (by omega) rfl ?_
          | refine s_sub tabOK rfl rfl rfl (by omega) rfl ?_)
       | refine sx tabOK rfl ?_
       | (refine isGuard ?_
          first
          | refine s_splitT rfl rfl rfl (fun h => ?_) (fun h => ?_)
          | refine s_splitF rfl rfl rfl (fun h => ?_) (fun h => ?_)
          | refine s_splitTn rfl rfl rfl (fun h => ?_) (fun h => ?_)
          | refine s_splitFn rfl rfl rfl (fun h => ?_) (fun h => ?_)
          | refine s_split rfl rfl rfl (fun h => ?_) (fun h => ?_)))
    | (refine isCond ?_
       first
       | refine at_true rfl ?_
       | refine at_false rfl ?_
       | refine at_iftd rfl (fun h => ?_) (fun h => ?_)
       | refine at_iftn rfl (fun h => ?_) (fun h => ?_)
       | refine at_ift rfl (fun h => ?_) (fun h => ?_)
       | refine at_ifd rfl (fun h => ?_) (fun h => ?_)
       | refine at_ifn rfl (fun h => ?_) (fun h => ?_)
       | refine at_cond rfl (fun h => ?_) (fun h => ?_))
    | refine at_ret ?_
    | refine at_exit ?_
    | refine bk_hit ?_
    | refine bk_miss rfl ?_
    | refine ret_eq rfl ?_
  · refine congrArg (V.int .i64) ?_
    unfold szPairs
    rw [if_pos h]
  refine at_loop (fun x : Nat × Int => ⟨[(0, .psl 0 6 (ps.map PPair.enc)), (1, .int .i64 x.2), (5, .int .i64 x.1)], [], 3, 27, []⟩) (fun x => x.1 ≤ ps.length ∧ (0 ≤ x.2 ∧ x.2 ≤ 1048576) ∧ szGo (ps.drop x.1) x.2 = szGo ps (n - ps.length)) (fun x => ps.length - x.1) (0, n - ps.length) ?_ ⟨Nat.zero_le _, ⟨by dsimp only; omega, by dsimp only; omega⟩, by simp⟩ ?_
  · exact down_env (ee_cons rfl rfl (rl_psl rl_pp rfl) (ee_cons rfl rfl rfl (ee_cons rfl rfl rfl ee_nil))) rfl rfl rfl rfl rfl
  · rintro ⟨i, m⟩ ⟨hi, hm, hg⟩
    dsimp only at hi hm hg ⊢
    have h0 : ¬ n - (ps.length : Int) < 0 := h
    clear h
    have hlt : i < ps.length → szGo (ps.drop i) m = if szPair (ps.getD i default) m < 0 then -1 else szGo (ps.drop (i + 1)) (szPair (ps.getD i default) m) := fun hl => by
      rw [drop_cons (d := default) hl]; rfl
    have hle := szPair_le (p := ps.getD i default) hm.1
    repeat' first
      | refine at_seq ?_
      | refine at_region ?_
      | refine aops_nil ?_
      | refine at_skip ?_
      | refine at_block ?_
      | refine sxs tabOK rfl ?_
      | (refine isOps ?_
         first
         | refine sv rfl (ov_mlen tabOK rfl rfl rfl) rfl ?_
         | refine sv rfl (ov_addr tabOK rfl rfl rfl rfl (by omega) (map_get (d := default) (by omega))) rfl ?_
         | refine call_eq (szPair_ok (ps.getD i default) m hm (hp.2 _ (getD_mem (by omega)))) rfl rfl rfl rfl ?_
         | refine s_add tabOK rfl rfl rfl (by omega) rfl ?_
         | (refine isLen ?_; refine sv rfl (ov_mlen tabOK rfl rfl rfl) rfl ?_)
         | (refine isBin ?_
            first
            | refine s_add tabOK rfl rfl rfl (by omega) rfl ?_
            | refine s_sub tabOK rfl rfl rfl (by omega) rfl ?_)
         | refine sx tabOK rfl ?_
         | (refine isGuard ?_
            first
            | refine s_splitT rfl rfl rfl (fun h => ?_) (fun h => ?_)
            | refine s_splitF rfl rfl rfl (fun h => ?_) (fun h => ?_)
            | refine s_splitTn rfl rfl rfl (fun h => ?_) (fun h => ?_)
            | refine s_splitFn rfl rfl rfl (fun h => ?_) (fun h => ?_)
            | refine s_split rfl rfl rfl (fun h => ?_) (fun h => ?_)))
      | (refine isCond ?_
         first
         | refine at_true rfl ?_
         | refine at_false rfl ?_
         | refine at_iftd rfl (fun h => ?_) (fun h => ?_)
         | refine at_iftn rfl (fun h => ?_) (fun h => ?_)
         | refine at_ift rfl (fun h => ?_) (fun h => ?_)
         | refine at_ifd rfl (fun h => ?_) (fun h => ?_)
         | refine at_ifn rfl (fun h => ?_) (fun h => ?_)
         | refine at_cond rfl (fun h => ?_) (fun h => ?_))
      | refine at_ret ?_
      | refine at_exit ?_
      | refine bk_hit ?_
      | refine bk_miss rfl ?_
      | refine ret_eq rfl ?_
    · refine congrArg (V.int .i64) ?_
      unfold szPairs
      rw [if_neg h0, ← hg, hlt (by omega), if_pos h]
    · refine ⟨(i + 1, szPair (ps.getD i default) m), ⟨by dsimp only; omega, by dsimp only; omega, ?_⟩, by dsimp only; omega, down_env (ee_cons rfl rfl (rl_psl rl_pp rfl) (ee_cons rfl rfl rfl (ee_cons rfl rfl rfl ee_nil))) rfl rfl rfl rfl rfl⟩
      dsimp only
      rw [← hg, hlt (by omega), if_neg h]
    · refine congrArg (V.int .i64) ?_
      unfold szPairs
      rw [if_neg h0, ← hg, List.drop_eq_nil_of_le (by omega)]
      rfl

theorem toValue_ok (v : PVal) : FC Try.prog 21 [.agg v.enc] [] 3 (fun x _ => x = .agg v.enc) := by
  refine fc_body tabOK Try.func21 rfl Try.ntmps21 rfl rfl rfl ?_
  repeat' first
    | refine at_seq ?_
    | refine at_region ?_
    | refine aops_nil ?_
    | refine at_skip ?_
    | refine at_block ?_
    | refine sxs tabOK rfl ?_
    | (refine isOps ?_
       first
       | (refine isLen ?_; refine sv rfl (ov_mlen tabOK rfl rfl rfl) rfl ?_)
       | (refine isBin ?_
          first
          | refine s_add tabOK rfl rfl rfl (by omega) rfl ?_
          | refine s_sub tabOK rfl rfl rfl (by omega) rfl ?_)
       | refine sx tabOK rfl ?_
       | (refine isGuard ?_
          first
          | refine s_splitT rfl rfl rfl (fun h => ?_) (fun h => ?_)
          | refine s_splitF rfl rfl rfl (fun h => ?_) (fun h => ?_)
          | refine s_splitTn rfl rfl rfl (fun h => ?_) (fun h => ?_)
          | refine s_splitFn rfl rfl rfl (fun h => ?_) (fun h => ?_)
          | refine s_split rfl rfl rfl (fun h => ?_) (fun h => ?_)))
    | (refine isCond ?_
       first
       | refine at_true rfl ?_
       | refine at_false rfl ?_
       | refine at_iftd rfl (fun h => ?_) (fun h => ?_)
       | refine at_iftn rfl (fun h => ?_) (fun h => ?_)
       | refine at_ift rfl (fun h => ?_) (fun h => ?_)
       | refine at_ifd rfl (fun h => ?_) (fun h => ?_)
       | refine at_ifn rfl (fun h => ?_) (fun h => ?_)
       | refine at_cond rfl (fun h => ?_) (fun h => ?_))
    | refine at_ret ?_
    | refine at_exit ?_
    | refine bk_hit ?_
    | refine bk_miss rfl ?_
    | refine ret_eq rfl ?_
  rfl

theorem toPair_ok (p : PPair) : FC Try.prog 60 [.agg p.enc] [] 3 (fun x _ => x = .agg p.enc) := by
  refine fc_body tabOK Try.func60 rfl Try.ntmps60 rfl rfl rfl ?_
  repeat' first
    | refine at_seq ?_
    | refine at_region ?_
    | refine aops_nil ?_
    | refine at_skip ?_
    | refine at_block ?_
    | refine sxs tabOK rfl ?_
    | (refine isOps ?_
       first
       | refine call_eq (toValue_ok p.h) rfl rfl rfl rfl ?_
       | refine call_eq (toValue_ok p.t) rfl rfl rfl rfl ?_
       | (refine isLen ?_; refine sv rfl (ov_mlen tabOK rfl rfl rfl) rfl ?_)
       | (refine isBin ?_
          first
          | refine s_add tabOK rfl rfl rfl (by omega) rfl ?_
          | refine s_sub tabOK rfl rfl rfl (by omega) rfl ?_)
       | refine sx tabOK rfl ?_
       | (refine isGuard ?_
          first
          | refine s_splitT rfl rfl rfl (fun h => ?_) (fun h => ?_)
          | refine s_splitF rfl rfl rfl (fun h => ?_) (fun h => ?_)
          | refine s_splitTn rfl rfl rfl (fun h => ?_) (fun h => ?_)
          | refine s_splitFn rfl rfl rfl (fun h => ?_) (fun h => ?_)
          | refine s_split rfl rfl rfl (fun h => ?_) (fun h => ?_)))
    | (refine isCond ?_
       first
       | refine at_true rfl ?_
       | refine at_false rfl ?_
       | refine at_iftd rfl (fun h => ?_) (fun h => ?_)
       | refine at_iftn rfl (fun h => ?_) (fun h => ?_)
       | refine at_ift rfl (fun h => ?_) (fun h => ?_)
       | refine at_ifd rfl (fun h => ?_) (fun h => ?_)
       | refine at_ifn rfl (fun h => ?_) (fun h => ?_)
       | refine at_cond rfl (fun h => ?_) (fun h => ?_))
    | refine at_ret ?_
    | refine at_exit ?_
    | refine bk_hit ?_
    | refine bk_miss rfl ?_
    | refine ret_eq rfl ?_
  rfl

theorem pval_eq {v v' : PVal} (h1 : v.kind = v'.kind) (h2 : v.number = v'.number) (h3 : v.text = v'.text) : v = v' := by
  cases v; cases v'; simp_all

theorem eqValue_ok (v v' : PVal) : FC Try.prog 31 [.agg v.enc, .agg v'.enc] [] 3 (fun x _ => x = .bool (decide (v = v'))) := by
  refine fc_body tabOK Try.func31 rfl Try.ntmps31 rfl rfl rfl ?_
  repeat' first
    | refine at_seq ?_
    | refine at_region ?_
    | refine aops_nil ?_
    | refine at_skip ?_
    | refine at_block ?_
    | refine sxs tabOK rfl ?_
    | (refine isOps ?_
       first
       | (refine isLen ?_; refine sv rfl (ov_mlen tabOK rfl rfl rfl) rfl ?_)
       | (refine isBin ?_
          first
          | refine s_add tabOK rfl rfl rfl (by omega) rfl ?_
          | refine s_sub tabOK rfl rfl rfl (by omega) rfl ?_)
       | refine sx tabOK rfl ?_
       | (refine isGuard ?_
          first
          | refine s_splitT rfl rfl rfl (fun h => ?_) (fun h => ?_)
          | refine s_splitF rfl rfl rfl (fun h => ?_) (fun h => ?_)
          | refine s_splitTn rfl rfl rfl (fun h => ?_) (fun h => ?_)
          | refine s_splitFn rfl rfl rfl (fun h => ?_) (fun h => ?_)
          | refine s_split rfl rfl rfl (fun h => ?_) (fun h => ?_)))
    | (refine isCond ?_
       first
       | refine at_true rfl ?_
       | refine at_false rfl ?_
       | refine at_iftd rfl (fun h => ?_) (fun h => ?_)
       | refine at_iftn rfl (fun h => ?_) (fun h => ?_)
       | refine at_ift rfl (fun h => ?_) (fun h => ?_)
       | refine at_ifd rfl (fun h => ?_) (fun h => ?_)
       | refine at_ifn rfl (fun h => ?_) (fun h => ?_)
       | refine at_cond rfl (fun h => ?_) (fun h => ?_))
    | refine at_ret ?_
    | refine at_exit ?_
    | refine bk_hit ?_
    | refine bk_miss rfl ?_
    | refine ret_eq rfl ?_
  all_goals refine congrArg V.bool ?_
  · exact (decide_eq_false (fun e => h (by rw [e]))).symm
  · exact (decide_eq_false (fun e => h (by rw [e]))).symm
  · exact (decide_eq_false (fun e => h (by rw [e]))).symm
  · rename_i h1 h2
    exact (decide_eq_true (pval_eq h1 h2 h)).symm

theorem eqPair_ok (p p' : PPair) : FC Try.prog 61 [.agg p.enc, .agg p'.enc] [] 3 (fun x _ => x = .bool (decide (p = p'))) := by
  refine fc_body tabOK Try.func61 rfl Try.ntmps61 rfl rfl rfl ?_
  repeat' first
    | refine at_seq ?_
    | refine at_region ?_
    | refine aops_nil ?_
    | refine at_skip ?_
    | refine at_block ?_
    | refine sxs tabOK rfl ?_
    | (refine isOps ?_
       first
       | refine call_eq (eqValue_ok p.h p'.h) rfl rfl rfl rfl ?_
       | refine call_eq (eqValue_ok p.t p'.t) rfl rfl rfl rfl ?_
       | (refine isLen ?_; refine sv rfl (ov_mlen tabOK rfl rfl rfl) rfl ?_)
       | (refine isBin ?_
          first
          | refine s_add tabOK rfl rfl rfl (by omega) rfl ?_
          | refine s_sub tabOK rfl rfl rfl (by omega) rfl ?_)
       | refine sx tabOK rfl ?_
       | (refine isGuard ?_
          first
          | refine s_splitT rfl rfl rfl (fun h => ?_) (fun h => ?_)
          | refine s_splitF rfl rfl rfl (fun h => ?_) (fun h => ?_)
          | refine s_splitTn rfl rfl rfl (fun h => ?_) (fun h => ?_)
          | refine s_splitFn rfl rfl rfl (fun h => ?_) (fun h => ?_)
          | refine s_split rfl rfl rfl (fun h => ?_) (fun h => ?_)))
    | (refine isCond ?_
       first
       | refine at_true rfl ?_
       | refine at_false rfl ?_
       | refine at_iftd rfl (fun h => ?_) (fun h => ?_)
       | refine at_iftn rfl (fun h => ?_) (fun h => ?_)
       | refine at_ift rfl (fun h => ?_) (fun h => ?_)
       | refine at_ifd rfl (fun h => ?_) (fun h => ?_)
       | refine at_ifn rfl (fun h => ?_) (fun h => ?_)
       | refine at_cond rfl (fun h => ?_) (fun h => ?_))
    | refine at_ret ?_
    | refine at_exit ?_
    | refine bk_hit ?_
    | refine bk_miss rfl ?_
    | refine ret_eq rfl ?_
  all_goals refine congrArg V.bool ?_
  · exact (decide_eq_false (fun e => h (by rw [e]))).symm
  · exact (decide_eq_false (fun e => h (by rw [e]))).symm
  · rename_i h1
    exact (decide_eq_true (by cases p; cases p'; simp_all)).symm

end Go.Proofs.Ytiecdekmiabmkaa
