/-
  The walks: slices of values sized, copied and compared.
-/
import Derived.Test.YtiecdekmiabmkaaWkPairB
import Derived.Test.YtiecdekmiabmkaaPlB
set_option linter.unusedVariables false
set_option linter.unusedSimpArgs false
namespace Go.Proofs.Ytiecdekmiabmkaa
open Go.Abs
attribute [local irreducible] AT AOps FC AQ
set_option maxRecDepth 4000

theorem rl_pv {f : Nat → Nat} (p : PVal) : V.rlL f p.enc = p.enc := rfl

theorem szValueS_ok (ps : List PVal) (n : Int) (hn : 0 ≤ n ∧ n ≤ 1048576) (hp : valsWf ps) : FC Try.prog 28 [.psl 0 3 (ps.map PVal.enc), .int .i64 n] [] 3 (fun x _ => x = .int .i64 (szVals ps n)) := by
  have hlen := hp.1
  refine fc_body tabOK Try.func28 rfl Try.ntmps28 rfl rfl rfl ?_
  repeat' first
    | refine at_seq ?_
    | refine at_region ?_
    | refine aops_nil ?_
    | refine at_skip ?_
    | refine at_block ?_
    | refine sxs tabOK rfl ?_
    | (refine isOps ?_
       first
       | refine sv rfl (ov_mlen tabOK rfl rfl rfl) rfl ?_
       | refine s_sub tabOK rfl rfl rfl (by omega) rfl ?_
       | (refine isLen ?_; refine sv rfl (ov_mlen tabOK rfl rfl rfl) rfl ?_)
       | (refine isBin ?_
          first
          | refine s_add tabOK rfl rfl rfl (by omega) rfl ?_
          | refine s_sub tabOK rfl rfl rfl (by omega) rfl ?_)
       | refine sx tabOK rfl ?_
       | (refine isGuard ?_
          first
          | refine s_splitT rfl rfl rfl (fun h => ?_) (fun h => ?_)
          | refine s_splitF rfl rfl rfl (fun h => ?_) (fun h => ?_)
          | refine s_splitTn rfl rfl rfl (fun h => ?_) (fun h => ?_)
          | refine s_splitFn rfl rfl rfl (fun h => ?_) (fun h => ?_)
          | refine s_split rfl rfl rfl (fun h => ?_) (fun h => ?_)))
    | (refine isCond ?_
       first
       | refine at_true rfl ?_
       | refine at_false rfl ?_
       | refine at_iftd rfl (fun h => ?_) (fun h => ?_)
       | refine at_iftn rfl (fun h => ?_) (fun h => ?_)
       | refine at_ift rfl (fun h => ?_) (fun h => ?_)
       | refine at_ifd rfl (fun h => ?_) (fun h => ?_)
       | refine at_ifn rfl (fun h => ?_) (fun h => ?_)
       | refine at_cond rfl (fun h => ?_) (fun h => ?_))
    | refine at_ret ?_
    | refine at_exit ?_
    | refine bk_hit ?_
    | refine bk_miss rfl ?_
    | refine ret_eq rfl ?_
  · refine congrArg (V.int .i64) ?_
    unfold szVals
    rw [if_pos h]
  refine at_loop (fun x : Nat × Int => ⟨[(0, .psl 0 3 (ps.map PVal.enc)), (1, .int .i64 x.2), (5, .int .i64 x.1)], [], 3, 27, []⟩) (fun x => x.1 ≤ ps.length ∧ (0 ≤ x.2 ∧ x.2 ≤ 1048576) ∧ szVGo (ps.drop x.1) x.2 = szVGo ps (n - ps.length)) (fun x => ps.length - x.1) (0, n - ps.length) ?_ ⟨Nat.zero_le _, ⟨by dsimp only; omega, by dsimp only; omega⟩, by simp⟩ ?_
  · exact down_env (ee_cons rfl rfl (rl_psl rl_pv rfl) (ee_cons rfl rfl rfl (ee_cons rfl rfl rfl ee_nil))) rfl rfl rfl rfl rfl
  · rintro ⟨i, m⟩ ⟨hi, hm, hg⟩
    dsimp only at hi hm hg ⊢
    have h0 : ¬ n - (ps.length : Int) < 0 := h
    clear h
    have hlt : i < ps.length → szVGo (ps.drop i) m = if szValue (ps.getD i default) m < 0 then -1 else szVGo (ps.drop (i + 1)) (szValue (ps.getD i default) m) := fun hl => by
      rw [drop_cons (d := default) hl]; rfl
    have hle := szValue_le (v := ps.getD i default) hm.1
    repeat' first
      | refine at_seq ?_
      | refine at_region ?_
      | refine aops_nil ?_
      | refine at_skip ?_
      | refine at_block ?_
      | refine sxs tabOK rfl ?_
      | (refine isOps ?_
         first
         | refine sv rfl (ov_mlen tabOK rfl rfl rfl) rfl ?_
         | refine sv rfl (ov_addr tabOK rfl rfl rfl rfl (by omega) (map_get (d := default) (by omega))) rfl ?_
         | refine call_eq (szValue_ok (ps.getD i default) m hm (hp.2 _ (getD_mem (by omega))).2.2) rfl rfl rfl rfl ?_
         | refine s_add tabOK rfl rfl rfl (by omega) rfl ?_
         | (refine isLen ?_; refine sv rfl (ov_mlen tabOK rfl rfl rfl) rfl ?_)
         | (refine isBin ?_
            first
            | refine s_add tabOK rfl rfl rfl (by omega) rfl ?_
            | refine s_sub tabOK rfl rfl rfl (by omega) rfl ?_)
         | refine sx tabOK rfl ?_
         | (refine isGuard ?_
            first
            | refine s_splitT rfl rfl rfl (fun h => ?_) (fun h => ?_)
            | refine s_splitF rfl rfl rfl (fun h => ?_) (fun h => ?_)
            | refine s_splitTn rfl rfl rfl (fun h => ?_) (fun h => ?_)
            | refine s_splitFn rfl rfl rfl (fun h => ?_) (fun h => ?_)
            | refine s_split rfl rfl rfl (fun h => ?_) (fun h => ?_)))
      | (refine isCond ?_
         first
         | refine at_true rfl ?_
         | refine at_false rfl ?_
         | refine at_iftd rfl (fun h => ?_) (fun h => ?_)
         | refine at_iftn rfl (fun h => ?_) (fun h => ?_)
         | refine at_ift rfl (fun h => ?_) (fun h => ?_)
         | refine at_ifd rfl (fun h => ?_) (fun h => ?_)
         | refine at_ifn rfl (fun h => ?_) (fun h => ?_)
         | refine at_cond rfl (fun h => ?_) (fun h => ?_))
      | refine at_ret ?_
      | refine at_exit ?_
      | refine bk_hit ?_
      | refine bk_miss rfl ?_
      | refine ret_eq rfl ?_
    · refine congrArg (V.int .i64) ?_
      unfold szVals
      rw [if_neg h0, ← hg, hlt (by omega), if_pos h]
    · refine ⟨(i + 1, szValue (ps.getD i default) m), ⟨by dsimp only; omega, by dsimp only; omega, ?_⟩, by dsimp only; omega, down_env (ee_cons rfl rfl (rl_psl rl_pv rfl) (ee_cons rfl rfl rfl (ee_cons rfl rfl rfl ee_nil))) rfl rfl rfl rfl rfl⟩
      dsimp only
      rw [← hg, hlt (by omega), if_neg h]
    · refine congrArg (V.int .i64) ?_
      unfold szVals
      rw [if_neg h0, ← hg, List.drop_eq_nil_of_le (by omega)]
      rfl

def valZero : List V := [.int .i64 0, .int .i64 0, .str []]
theorem val_rows {n : Nat} {ps : List PVal} {i : Nat} : ∀ row ∈ fill PVal.enc valZero ps i, RowOk n row :=
  fill_ok (fun _ => ⟨rfl, rfl, rfl, trivial⟩) ⟨rfl, rfl, rfl, trivial⟩

theorem toValueS_ok (ps : List PVal) (hp : valsSmall ps) : FC Try.prog 30 [.psl 0 3 (ps.map PVal.enc)] [] 3 (fun x _ => x = .psl 1 3 (ps.map PVal.enc)) := by
  have hlen := hp.1
  refine fc_body tabOK Try.func30 rfl Try.ntmps30 rfl rfl rfl ?_
  repeat' first
    | refine at_seq ?_
    | refine at_region ?_
    | refine aops_nil ?_
    | refine at_skip ?_
    | refine at_block ?_
    | refine sxs tabOK rfl ?_
    | (refine isOps ?_
       first
       | refine sv rfl (ov_mlen tabOK rfl rfl rfl) rfl ?_
       | refine s_fmake (en := PVal.enc) (l := ps) tabOK rfl rfl rfl rfl ⟨rfl, by decide⟩ ⟨by omega, by omega⟩ rfl ?_
       | (refine isLen ?_; refine sv rfl (ov_mlen tabOK rfl rfl rfl) rfl ?_)
       | (refine isBin ?_
          first
          | refine s_add tabOK rfl rfl rfl (by omega) rfl ?_
          | refine s_sub tabOK rfl rfl rfl (by omega) rfl ?_)
       | refine sx tabOK rfl ?_
       | (refine isGuard ?_
          first
          | refine s_splitT rfl rfl rfl (fun h => ?_) (fun h => ?_)
          | refine s_splitF rfl rfl rfl (fun h => ?_) (fun h => ?_)
          | refine s_splitTn rfl rfl rfl (fun h => ?_) (fun h => ?_)
          | refine s_splitFn rfl rfl rfl (fun h => ?_) (fun h => ?_)
          | refine s_split rfl rfl rfl (fun h => ?_) (fun h => ?_)))
    | (refine isCond ?_
       first
       | refine at_true rfl ?_
       | refine at_false rfl ?_
       | refine at_iftd rfl (fun h => ?_) (fun h => ?_)
       | refine at_iftn rfl (fun h => ?_) (fun h => ?_)
       | refine at_ift rfl (fun h => ?_) (fun h => ?_)
       | refine at_ifd rfl (fun h => ?_) (fun h => ?_)
       | refine at_ifn rfl (fun h => ?_) (fun h => ?_)
       | refine at_cond rfl (fun h => ?_) (fun h => ?_))
    | refine at_ret ?_
    | refine at_exit ?_
    | refine bk_hit ?_
    | refine bk_miss rfl ?_
    | refine ret_eq rfl ?_
  refine at_loop (fun i : Nat => ⟨[(0, .psl 0 3 (ps.map PVal.enc)), (3, .hsl 3 0 ps.length), (4, .int .i64 i)], [(3, ⟨3, fill PVal.enc valZero ps i⟩)], 4, 23, []⟩) (fun i => i ≤ ps.length) (fun i => ps.length - i) 0 ?_ (Nat.zero_le _) ?_
  · exact down_all (ee_cons rfl rfl (rl_psl rl_pv rfl) (ee_cons rfl rfl (Nat.lt_add_one 3) (ee_cons rfl rfl rfl ee_nil))) (he_cons rfl rfl rfl val_rows he_nil) rfl rfl rfl rfl
  · intro i hi
    repeat' first
      | refine at_freeze (c := .region 6 _ _) 3 rfl rfl (fill_len hi).symm ?_
      | refine at_seq ?_
      | refine at_region ?_
      | refine aops_nil ?_
      | refine at_skip ?_
      | refine at_block ?_
      | refine sxs tabOK rfl ?_
      | (refine isOps ?_
         first
         | refine sv rfl (ov_mlen tabOK rfl rfl rfl) rfl ?_
         | refine sv rfl (ov_addr tabOK rfl rfl rfl rfl (by omega) (map_get (d := default) (by omega))) rfl ?_
         | refine call_eq (toValue_ok (ps.getD i default)) rfl rfl rfl rfl ?_
         | refine s_add tabOK rfl rfl rfl (by omega) rfl ?_
         | refine sv rfl (ov_faddr (l := ps) (i := i) (j := i) tabOK rfl rfl rfl (by omega) rfl (by omega)) rfl ?_
         | refine s_fstore (l := ps) (i := i) (dv := default) tabOK rfl rfl rfl rfl (by omega) rfl rfl rfl rfl rfl ?_
         | (refine isLen ?_; refine sv rfl (ov_mlen tabOK rfl rfl rfl) rfl ?_)
         | (refine isBin ?_
            first
            | refine s_add tabOK rfl rfl rfl (by omega) rfl ?_
            | refine s_sub tabOK rfl rfl rfl (by omega) rfl ?_)
         | refine sx tabOK rfl ?_
         | (refine isGuard ?_
            first
            | refine s_splitT rfl rfl rfl (fun h => ?_) (fun h => ?_)
            | refine s_splitF rfl rfl rfl (fun h => ?_) (fun h => ?_)
            | refine s_splitTn rfl rfl rfl (fun h => ?_) (fun h => ?_)
            | refine s_splitFn rfl rfl rfl (fun h => ?_) (fun h => ?_)
            | refine s_split rfl rfl rfl (fun h => ?_) (fun h => ?_)))
      | (refine isCond ?_
         first
         | refine at_true rfl ?_
         | refine at_false rfl ?_
         | refine at_iftd rfl (fun h => ?_) (fun h => ?_)
         | refine at_iftn rfl (fun h => ?_) (fun h => ?_)
         | refine at_ift rfl (fun h => ?_) (fun h => ?_)
         | refine at_ifd rfl (fun h => ?_) (fun h => ?_)
         | refine at_ifn rfl (fun h => ?_) (fun h => ?_)
         | refine at_cond rfl (fun h => ?_) (fun h => ?_))
      | refine at_ret ?_
      | refine at_exit ?_
      | refine bk_hit ?_
      | refine bk_miss rfl ?_
      | refine ret_eq rfl ?_
    · exact ⟨i + 1, by dsimp only; omega, by dsimp only; omega, down_all (ee_cons rfl rfl (rl_psl rl_pv rfl) (ee_cons rfl rfl (Nat.lt_add_one 3) (ee_cons rfl rfl rfl ee_nil))) (he_cons rfl rfl rfl val_rows he_nil) rfl rfl rfl rfl⟩
    · have : i = ps.length := by omega
      subst this
      rw [fill_all]

theorem eqValueS_ok (ps qs : List PVal) (hp : ps.length ≤ 1048576) : FC Try.prog 32 [.psl 0 3 (ps.map PVal.enc), .psl 0 3 (qs.map PVal.enc)] [] 3 (fun x _ => x = .bool (decide (ps = qs))) := by
  refine fc_body tabOK Try.func32 rfl Try.ntmps32 rfl rfl rfl ?_
  repeat' first
    | refine at_drawn' (id := 6) 8 (by kernel_rfl) (by kernel_rfl) ?_
    | refine at_seq ?_
    | refine at_region ?_
    | refine aops_nil ?_
    | refine at_skip ?_
    | refine at_block ?_
    | (refine isDR ?_
       first
       | refine dx tabOK rfl ?_
       | refine dx tabOK rfl ?_
       | refine dr_nil ?_)
    | refine sxs tabOK rfl ?_
    | (refine isOps ?_
       first
       | refine sv rfl (ov_mlen tabOK rfl rfl rfl) rfl ?_
       | (refine isLen ?_; refine sv rfl (ov_mlen tabOK rfl rfl rfl) rfl ?_)
       | (refine isBin ?_
          first
          | refine s_add tabOK rfl rfl rfl (by omega) rfl ?_
          | refine s_sub tabOK rfl rfl rfl (by omega) rfl ?_)
       | refine sx tabOK rfl ?_
       | (refine isGuard ?_
          first
          | refine s_splitT rfl rfl rfl (fun h => ?_) (fun h => ?_)
          | refine s_splitF rfl rfl rfl (fun h => ?_) (fun h => ?_)
          | refine s_splitTn rfl rfl rfl (fun h => ?_) (fun h => ?_)
          | refine s_splitFn rfl rfl rfl (fun h => ?_) (fun h => ?_)
          | refine s_split rfl rfl rfl (fun h => ?_) (fun h => ?_)))
    | (refine isCond ?_
       first
       | refine at_true rfl ?_
       | refine at_false rfl ?_
       | refine at_iftd rfl (fun h => ?_) (fun h => ?_)
       | refine at_iftn rfl (fun h => ?_) (fun h => ?_)
       | refine at_ift rfl (fun h => ?_) (fun h => ?_)
       | refine at_ifd rfl (fun h => ?_) (fun h => ?_)
       | refine at_ifn rfl (fun h => ?_) (fun h => ?_)
       | refine at_cond rfl (fun h => ?_) (fun h => ?_))
    | refine at_ret ?_
    | refine at_exit ?_
    | refine bk_hit ?_
    | refine bk_miss rfl ?_
    | refine ret_eq rfl ?_
  · exact congrArg V.bool (decide_eq_false (fun e => h (by rw [e]))).symm
  have hq : ps.length = qs.length := by omega
  clear h
  refine at_loop (fun i : Nat => ⟨[(0, .psl 0 3 (ps.map PVal.enc)), (1, .psl 0 3 (qs.map PVal.enc)), (5, .int .i64 i)], [], 3, 27, []⟩) (fun i => i ≤ ps.length ∧ ps.take i = qs.take i) (fun i => ps.length - i) 0 ?_ ⟨Nat.zero_le _, rfl⟩ ?_
  · exact down_env (ee_cons rfl rfl (rl_psl rl_pv rfl) (ee_cons rfl rfl (rl_psl rl_pv rfl) (ee_cons rfl rfl rfl ee_nil))) rfl rfl rfl rfl rfl
  · rintro i ⟨hi, hm⟩
    repeat' first
      | refine at_draw (by kernel_rfl) (by kernel_rfl) ?_
      | refine at_seq ?_
      | refine at_region ?_
      | refine aops_nil ?_
      | refine at_skip ?_
      | refine at_block ?_
      | (refine isAQ ?_
         first
         | refine qv rfl (ov_addr tabOK rfl rfl rfl rfl (by omega) (map_get (d := default) (by omega))) rfl ?_
         | refine q_call (eqValue_ok (ps.getD i default) (qs.getD i default)) rfl rfl rfl rfl ?_
         | refine qx tabOK rfl ?_
         | refine aq_nil ?_)
      | refine sxs tabOK rfl ?_
      | (refine isOps ?_
         first
         | refine sv rfl (ov_mlen tabOK rfl rfl rfl) rfl ?_
         | refine s_add tabOK rfl rfl rfl (by omega) rfl ?_
         | (refine isLen ?_; refine sv rfl (ov_mlen tabOK rfl rfl rfl) rfl ?_)
         | (refine isBin ?_
            first
            | refine s_add tabOK rfl rfl rfl (by omega) rfl ?_
            | refine s_sub tabOK rfl rfl rfl (by omega) rfl ?_)
         | refine sx tabOK rfl ?_
         | (refine isGuard ?_
            first
            | refine s_splitT rfl rfl rfl (fun h => ?_) (fun h => ?_)
            | refine s_splitF rfl rfl rfl (fun h => ?_) (fun h => ?_)
            | refine s_splitTn rfl rfl rfl (fun h => ?_) (fun h => ?_)
            | refine s_splitFn rfl rfl rfl (fun h => ?_) (fun h => ?_)
            | refine s_split rfl rfl rfl (fun h => ?_) (fun h => ?_)))
      | (refine isCond ?_
         first
         | refine at_true rfl ?_
         | refine at_false rfl ?_
         | refine at_iftd rfl (fun h => ?_) (fun h => ?_)
         | refine at_iftn rfl (fun h => ?_) (fun h => ?_)
         | refine at_ift rfl (fun h => ?_) (fun h => ?_)
         | refine at_ifd rfl (fun h => ?_) (fun h => ?_)
         | refine at_ifn rfl (fun h => ?_) (fun h => ?_)
         | refine at_cond rfl (fun h => ?_) (fun h => ?_))
      | refine at_ret ?_
      | refine at_exit ?_
      | refine bk_hit ?_
      | refine bk_miss rfl ?_
      | refine ret_eq rfl ?_
    · refine congrArg V.bool (decide_eq_false (fun e => h (by rw [e]))).symm
    · refine ⟨i + 1, ⟨by omega, ?_⟩, by dsimp only; omega, down_env (ee_cons rfl rfl (rl_psl rl_pv rfl) (ee_cons rfl rfl (rl_psl rl_pv rfl) (ee_cons rfl rfl rfl ee_nil))) rfl rfl rfl rfl rfl⟩
      rw [take_next (d := default) (by omega), take_next (d := default) (by omega), hm, h]
    · refine congrArg V.bool (decide_eq_true ?_).symm
      have h1 : i = ps.length := by omega
      have h2 : i = qs.length := by omega
      rw [← List.take_length (l := ps), ← h1, hm, h2, List.take_length]

end Go.Proofs.Ytiecdekmiabmkaa
