/-
  The walks: letters, names of symbols, texts.
-/
import Derived.Test.YtiecdekmiabmkaaTab1
import Derived.Test.YtiecdekmiabmkaaAbsP
import Derived.Test.YtiecdekmiabmkaaPlA
set_option linter.unusedVariables false
set_option linter.unusedSimpArgs false
namespace Go.Proofs.Ytiecdekmiabmkaa
open Go.Abs
attribute [local irreducible] AT AOps FC

theorem isDigit_ok (b : UInt8) : FC Try.prog 122 [.int .u8 b.toNat] [] 3 (fun x _ => x = .bool (isDigit b)) := by
  refine fc_body tabOK Try.func122 rfl Try.ntmps122 rfl rfl rfl ?_
  repeat' first
    | refine at_seq ?_
    | refine at_region ?_
    | refine aops_nil ?_
    | refine at_skip ?_
    | refine at_block ?_
    | refine sxs tabOK rfl ?_
    | (refine isOps ?_
       first
       | (refine isLen ?_; refine sv rfl (ov_mlen tabOK rfl rfl rfl) rfl ?_)
       | (refine isBin ?_
          first
          | refine s_add tabOK rfl rfl rfl (by omega) rfl ?_
          | refine s_sub tabOK rfl rfl rfl (by omega) rfl ?_)
       | refine sx tabOK rfl ?_
       | (refine isGuard ?_
          first
          | refine s_splitT rfl rfl rfl (fun h => ?_) (fun h => ?_)
          | refine s_splitF rfl rfl rfl (fun h => ?_) (fun h => ?_)
          | refine s_splitTn rfl rfl rfl (fun h => ?_) (fun h => ?_)
          | refine s_splitFn rfl rfl rfl (fun h => ?_) (fun h => ?_)
          | refine s_split rfl rfl rfl (fun h => ?_) (fun h => ?_)))
    | (refine isCond ?_
       first
       | refine at_true rfl ?_
       | refine at_false rfl ?_
       | refine at_iftd rfl (fun h => ?_) (fun h => ?_)
       | refine at_iftn rfl (fun h => ?_) (fun h => ?_)
       | refine at_ift rfl (fun h => ?_) (fun h => ?_)
       | refine at_ifd rfl (fun h => ?_) (fun h => ?_)
       | refine at_ifn rfl (fun h => ?_) (fun h => ?_)
       | refine at_cond rfl (fun h => ?_) (fun h => ?_))
    | refine at_ret ?_
    | refine at_exit ?_
    | refine bk_hit ?_
    | refine bk_miss rfl ?_
    | refine ret_eq rfl ?_
  all_goals (simp_all [isDigit]; try omega)

theorem l1Digit_ok (b : UInt8) : FC Try.prog 124 [.int .u8 b.toNat] [] 3 (fun x _ => x = .bool (isDigit b)) := by
  refine fc_body tabOK Try.func124 rfl Try.ntmps124 rfl rfl rfl ?_
  repeat' first
    | refine at_seq ?_
    | refine at_region ?_
    | refine aops_nil ?_
    | refine at_skip ?_
    | refine at_block ?_
    | refine sxs tabOK rfl ?_
    | (refine isOps ?_
       first
       | (refine isLen ?_; refine sv rfl (ov_mlen tabOK rfl rfl rfl) rfl ?_)
       | (refine isBin ?_
          first
          | refine s_add tabOK rfl rfl rfl (by omega) rfl ?_
          | refine s_sub tabOK rfl rfl rfl (by omega) rfl ?_)
       | refine sx tabOK rfl ?_
       | (refine isGuard ?_
          first
          | refine s_splitT rfl rfl rfl (fun h => ?_) (fun h => ?_)
          | refine s_splitF rfl rfl rfl (fun h => ?_) (fun h => ?_)
          | refine s_splitTn rfl rfl rfl (fun h => ?_) (fun h => ?_)
          | refine s_splitFn rfl rfl rfl (fun h => ?_) (fun h => ?_)
          | refine s_split rfl rfl rfl (fun h => ?_) (fun h => ?_)))
    | (refine isCond ?_
       first
       | refine at_true rfl ?_
       | refine at_false rfl ?_
       | refine at_iftd rfl (fun h => ?_) (fun h => ?_)
       | refine at_iftn rfl (fun h => ?_) (fun h => ?_)
       | refine at_ift rfl (fun h => ?_) (fun h => ?_)
       | refine at_ifd rfl (fun h => ?_) (fun h => ?_)
       | refine at_ifn rfl (fun h => ?_) (fun h => ?_)
       | refine at_cond rfl (fun h => ?_) (fun h => ?_))
    | refine at_ret ?_
    | refine at_exit ?_
    | refine bk_hit ?_
    | refine bk_miss rfl ?_
    | refine ret_eq rfl ?_
  all_goals (simp_all [isDigit]; try omega)

theorem l1In_ok (a b c : Int) : FC Try.prog 80 [.int .i64 a, .int .i64 b, .int .i64 c] [] 3 (fun x _ => x = .bool (inside a b c)) := by
  refine fc_body tabOK Try.func80 rfl Try.ntmps80 rfl rfl rfl ?_
  repeat' first
    | refine at_seq ?_
    | refine at_region ?_
    | refine aops_nil ?_
    | refine at_skip ?_
    | refine at_block ?_
    | refine sxs tabOK rfl ?_
    | (refine isOps ?_
       first
       | (refine isLen ?_; refine sv rfl (ov_mlen tabOK rfl rfl rfl) rfl ?_)
       | (refine isBin ?_
          first
          | refine s_add tabOK rfl rfl rfl (by omega) rfl ?_
          | refine s_sub tabOK rfl rfl rfl (by omega) rfl ?_)
       | refine sx tabOK rfl ?_
       | (refine isGuard ?_
          first
          | refine s_splitT rfl rfl rfl (fun h => ?_) (fun h => ?_)
          | refine s_splitF rfl rfl rfl (fun h => ?_) (fun h => ?_)
          | refine s_splitTn rfl rfl rfl (fun h => ?_) (fun h => ?_)
          | refine s_splitFn rfl rfl rfl (fun h => ?_) (fun h => ?_)
          | refine s_split rfl rfl rfl (fun h => ?_) (fun h => ?_)))
    | (refine isCond ?_
       first
       | refine at_true rfl ?_
       | refine at_false rfl ?_
       | refine at_iftd rfl (fun h => ?_) (fun h => ?_)
       | refine at_iftn rfl (fun h => ?_) (fun h => ?_)
       | refine at_ift rfl (fun h => ?_) (fun h => ?_)
       | refine at_ifd rfl (fun h => ?_) (fun h => ?_)
       | refine at_ifn rfl (fun h => ?_) (fun h => ?_)
       | refine at_cond rfl (fun h => ?_) (fun h => ?_))
    | refine at_ret ?_
    | refine at_exit ?_
    | refine bk_hit ?_
    | refine bk_miss rfl ?_
    | refine ret_eq rfl ?_
  all_goals (simp_all [inside]; try omega)

theorem symbolByte_ok (b : UInt8) : FC Try.prog 123 [.int .u8 b.toNat] [] 3 (fun x _ => x = .bool (markB b)) := by
  refine fc_body tabOK Try.func123 rfl Try.ntmps123 rfl rfl rfl ?_
  refine at_seq (at_region ?_)
  refine sx tabOK rfl ?_
  refine aops_nil ?_
  refine at_seq ?_
  refine at_cut ⟨[(0, .int .u8 b.toNat), (16, .bool ((decide (97 ≤ (b.toNat : Int)) && decide ((b.toNat : Int) ≤ 122)) || isDigit b))], [], 3, 30, []⟩ ?_ ?_
  · refine at_region ?_
    repeat' first
      | refine at_seq ?_
      | refine at_region ?_
      | refine aops_nil ?_
      | refine at_skip ?_
      | refine at_block ?_
      | refine sxs tabOK rfl ?_
      | (refine isOps ?_
         first
         | (refine isLen ?_; refine sv rfl (ov_mlen tabOK rfl rfl rfl) rfl ?_)
         | (refine isBin ?_
            first
            | refine s_add tabOK rfl rfl rfl (by omega) rfl ?_
            | refine s_sub tabOK rfl rfl rfl (by omega) rfl ?_)
         | refine sx tabOK rfl ?_
         | (refine isGuard ?_
            first
            | refine s_splitT rfl rfl rfl (fun h => ?_) (fun h => ?_)
            | refine s_splitF rfl rfl rfl (fun h => ?_) (fun h => ?_)
            | refine s_splitTn rfl rfl rfl (fun h => ?_) (fun h => ?_)
            | refine s_splitFn rfl rfl rfl (fun h => ?_) (fun h => ?_)
            | refine s_split rfl rfl rfl (fun h => ?_) (fun h => ?_)))
      | (refine isCond ?_
         first
         | refine at_true rfl ?_
         | refine at_false rfl ?_
         | refine at_iftd rfl (fun h => ?_) (fun h => ?_)
         | refine at_iftn rfl (fun h => ?_) (fun h => ?_)
         | refine at_ift rfl (fun h => ?_) (fun h => ?_)
         | refine at_ifd rfl (fun h => ?_) (fun h => ?_)
         | refine at_ifn rfl (fun h => ?_) (fun h => ?_)
         | refine at_cond rfl (fun h => ?_) (fun h => ?_))
      | refine at_ret ?_
      | refine at_exit ?_
      | refine bk_hit ?_
      | refine bk_miss rfl ?_
      | refine ret_eq rfl ?_
    all_goals refine down_env (ee_cons rfl rfl rfl (ee_cons rfl (congrArg V.bool ?_) rfl ee_nil)) rfl rfl rfl rfl rfl
    all_goals (simp_all [isDigit]; try (intros; omega))
  · refine at_cond rfl (fun h => ?_) (fun h => ?_)
    · repeat' first
        | refine at_seq ?_
        | refine at_region ?_
        | refine aops_nil ?_
        | refine at_skip ?_
        | refine at_block ?_
        | refine sxs tabOK rfl ?_
        | (refine isOps ?_
           first
           | (refine isLen ?_; refine sv rfl (ov_mlen tabOK rfl rfl rfl) rfl ?_)
           | (refine isBin ?_
              first
              | refine s_add tabOK rfl rfl rfl (by omega) rfl ?_
              | refine s_sub tabOK rfl rfl rfl (by omega) rfl ?_)
           | refine sx tabOK rfl ?_
           | (refine isGuard ?_
              first
              | refine s_splitT rfl rfl rfl (fun h => ?_) (fun h => ?_)
              | refine s_splitF rfl rfl rfl (fun h => ?_) (fun h => ?_)
              | refine s_splitTn rfl rfl rfl (fun h => ?_) (fun h => ?_)
              | refine s_splitFn rfl rfl rfl (fun h => ?_) (fun h => ?_)
              | refine s_split rfl rfl rfl (fun h => ?_) (fun h => ?_)))
        | (refine isCond ?_
           first
           | refine at_true rfl ?_
           | refine at_false rfl ?_
           | refine at_iftd rfl (fun h => ?_) (fun h => ?_)
           | refine at_iftn rfl (fun h => ?_) (fun h => ?_)
           | refine at_ift rfl (fun h => ?_) (fun h => ?_)
           | refine at_ifd rfl (fun h => ?_) (fun h => ?_)
           | refine at_ifn rfl (fun h => ?_) (fun h => ?_)
           | refine at_cond rfl (fun h => ?_) (fun h => ?_))
        | refine at_ret ?_
        | refine at_exit ?_
        | refine bk_hit ?_
        | refine bk_miss rfl ?_
        | refine ret_eq rfl ?_
      simp only [markB, h, Bool.true_or]
    repeat' first
      | refine at_seq ?_
      | refine at_region ?_
      | refine aops_nil ?_
      | refine at_skip ?_
      | refine at_block ?_
      | refine sxs tabOK rfl ?_
      | (refine isOps ?_
         first
         | (refine isLen ?_; refine sv rfl (ov_mlen tabOK rfl rfl rfl) rfl ?_)
         | (refine isBin ?_
            first
            | refine s_add tabOK rfl rfl rfl (by omega) rfl ?_
            | refine s_sub tabOK rfl rfl rfl (by omega) rfl ?_)
         | refine sx tabOK rfl ?_
         | (refine isGuard ?_
            first
            | refine s_splitT rfl rfl rfl (fun h => ?_) (fun h => ?_)
            | refine s_splitF rfl rfl rfl (fun h => ?_) (fun h => ?_)
            | refine s_splitTn rfl rfl rfl (fun h => ?_) (fun h => ?_)
            | refine s_splitFn rfl rfl rfl (fun h => ?_) (fun h => ?_)
            | refine s_split rfl rfl rfl (fun h => ?_) (fun h => ?_)))
      | (refine isCond ?_
         first
         | refine at_true rfl ?_
         | refine at_false rfl ?_
         | refine at_iftd rfl (fun h => ?_) (fun h => ?_)
         | refine at_iftn rfl (fun h => ?_) (fun h => ?_)
         | refine at_ift rfl (fun h => ?_) (fun h => ?_)
         | refine at_ifd rfl (fun h => ?_) (fun h => ?_)
         | refine at_ifn rfl (fun h => ?_) (fun h => ?_)
         | refine at_cond rfl (fun h => ?_) (fun h => ?_))
      | refine at_ret ?_
      | refine at_exit ?_
      | refine bk_hit ?_
      | refine bk_miss rfl ?_
      | refine ret_eq rfl ?_
    all_goals (simp_all [markB, markOdd])

theorem l1Mark_ok (b : UInt8) : FC Try.prog 125 [.int .u8 b.toNat] [] 3 (fun x _ => x = .bool (markB b)) := by
  refine fc_body tabOK Try.func125 rfl Try.ntmps125 rfl rfl rfl ?_
  refine at_seq (at_region ?_)
  refine sx tabOK rfl ?_
  refine aops_nil ?_
  refine at_seq ?_
  refine at_cut ⟨[(0, .int .u8 b.toNat), (14, .bool ((decide (97 ≤ (b.toNat : Int)) && decide ((b.toNat : Int) ≤ 122)) || isDigit b))], [], 3, 26, []⟩ ?_ ?_
  · refine at_region ?_
    repeat' first
      | refine at_seq ?_
      | refine at_region ?_
      | refine aops_nil ?_
      | refine at_skip ?_
      | refine at_block ?_
      | refine sxs tabOK rfl ?_
      | (refine isOps ?_
         first
         | refine call_eq (l1Digit_ok _) rfl rfl rfl rfl ?_
         | (refine isLen ?_; refine sv rfl (ov_mlen tabOK rfl rfl rfl) rfl ?_)
         | (refine isBin ?_
            first
            | refine s_add tabOK rfl rfl rfl (by omega) rfl ?_
            | refine s_sub tabOK rfl rfl rfl (by omega) rfl ?_)
         | refine sx tabOK rfl ?_
         | (refine isGuard ?_
            first
            | refine s_splitT rfl rfl rfl (fun h => ?_) (fun h => ?_)
            | refine s_splitF rfl rfl rfl (fun h => ?_) (fun h => ?_)
            | refine s_splitTn rfl rfl rfl (fun h => ?_) (fun h => ?_)
            | refine s_splitFn rfl rfl rfl (fun h => ?_) (fun h => ?_)
            | refine s_split rfl rfl rfl (fun h => ?_) (fun h => ?_)))
      | (refine isCond ?_
         first
         | refine at_true rfl ?_
         | refine at_false rfl ?_
         | refine at_iftd rfl (fun h => ?_) (fun h => ?_)
         | refine at_iftn rfl (fun h => ?_) (fun h => ?_)
         | refine at_ift rfl (fun h => ?_) (fun h => ?_)
         | refine at_ifd rfl (fun h => ?_) (fun h => ?_)
         | refine at_ifn rfl (fun h => ?_) (fun h => ?_)
         | refine at_cond rfl (fun h => ?_) (fun h => ?_))
      | refine at_ret ?_
      | refine at_exit ?_
      | refine bk_hit ?_
      | refine bk_miss rfl ?_
      | refine ret_eq rfl ?_
    all_goals refine down_env (ee_cons rfl rfl rfl (ee_cons rfl (congrArg V.bool ?_) rfl ee_nil)) rfl rfl rfl rfl rfl
    all_goals (simp_all; try (intros; omega))
  · refine at_cond rfl (fun h => ?_) (fun h => ?_)
    · repeat' first
        | refine at_seq ?_
        | refine at_region ?_
        | refine aops_nil ?_
        | refine at_skip ?_
        | refine at_block ?_
        | refine sxs tabOK rfl ?_
        | (refine isOps ?_
           first
           | (refine isLen ?_; refine sv rfl (ov_mlen tabOK rfl rfl rfl) rfl ?_)
           | (refine isBin ?_
              first
              | refine s_add tabOK rfl rfl rfl (by omega) rfl ?_
              | refine s_sub tabOK rfl rfl rfl (by omega) rfl ?_)
           | refine sx tabOK rfl ?_
           | (refine isGuard ?_
              first
              | refine s_splitT rfl rfl rfl (fun h => ?_) (fun h => ?_)
              | refine s_splitF rfl rfl rfl (fun h => ?_) (fun h => ?_)
              | refine s_splitTn rfl rfl rfl (fun h => ?_) (fun h => ?_)
              | refine s_splitFn rfl rfl rfl (fun h => ?_) (fun h => ?_)
              | refine s_split rfl rfl rfl (fun h => ?_) (fun h => ?_)))
        | (refine isCond ?_
           first
           | refine at_true rfl ?_
           | refine at_false rfl ?_
           | refine at_iftd rfl (fun h => ?_) (fun h => ?_)
           | refine at_iftn rfl (fun h => ?_) (fun h => ?_)
           | refine at_ift rfl (fun h => ?_) (fun h => ?_)
           | refine at_ifd rfl (fun h => ?_) (fun h => ?_)
           | refine at_ifn rfl (fun h => ?_) (fun h => ?_)
           | refine at_cond rfl (fun h => ?_) (fun h => ?_))
        | refine at_ret ?_
        | refine at_exit ?_
        | refine bk_hit ?_
        | refine bk_miss rfl ?_
        | refine ret_eq rfl ?_
      simp only [markB, h, Bool.true_or]
    repeat' first
      | refine at_seq ?_
      | refine at_region ?_
      | refine aops_nil ?_
      | refine at_skip ?_
      | refine at_block ?_
      | refine sxs tabOK rfl ?_
      | (refine isOps ?_
         first
         | (refine isLen ?_; refine sv rfl (ov_mlen tabOK rfl rfl rfl) rfl ?_)
         | (refine isBin ?_
            first
            | refine s_add tabOK rfl rfl rfl (by omega) rfl ?_
            | refine s_sub tabOK rfl rfl rfl (by omega) rfl ?_)
         | refine sx tabOK rfl ?_
         | (refine isGuard ?_
            first
            | refine s_splitT rfl rfl rfl (fun h => ?_) (fun h => ?_)
            | refine s_splitF rfl rfl rfl (fun h => ?_) (fun h => ?_)
            | refine s_splitTn rfl rfl rfl (fun h => ?_) (fun h => ?_)
            | refine s_splitFn rfl rfl rfl (fun h => ?_) (fun h => ?_)
            | refine s_split rfl rfl rfl (fun h => ?_) (fun h => ?_)))
      | (refine isCond ?_
         first
         | refine at_true rfl ?_
         | refine at_false rfl ?_
         | refine at_iftd rfl (fun h => ?_) (fun h => ?_)
         | refine at_iftn rfl (fun h => ?_) (fun h => ?_)
         | refine at_ift rfl (fun h => ?_) (fun h => ?_)
         | refine at_ifd rfl (fun h => ?_) (fun h => ?_)
         | refine at_ifn rfl (fun h => ?_) (fun h => ?_)
         | refine at_cond rfl (fun h => ?_) (fun h => ?_))
      | refine at_ret ?_
      | refine at_exit ?_
      | refine bk_hit ?_
      | refine bk_miss rfl ?_
      | refine ret_eq rfl ?_
    refine at_loop (fun i : Nat => ⟨[(0, .int .u8 b.toNat), (3, .str markTab), (4, .int .i64 i)], [], 3, 26, []⟩) (fun i => i ≤ 11 ∧ ((markTab.drop i).any fun c => decide (((c.toNat : Nat) : Int) = b.toNat)) = (markTab.any fun c => decide (((c.toNat : Nat) : Int) = b.toNat))) (fun i => 11 - i) 0 ?_ ⟨Nat.zero_le _, rfl⟩ ?_
    · exact down_env (ee_cons rfl rfl rfl (ee_cons rfl rfl rfl (ee_cons rfl rfl rfl ee_nil))) rfl rfl rfl rfl rfl
    · rintro i ⟨hi, hm⟩
      have hlen : (markTab.length : Int) = 11 := rfl
      repeat' first
        | refine at_seq ?_
        | refine at_region ?_
        | refine aops_nil ?_
        | refine at_skip ?_
        | refine at_block ?_
        | refine sxs tabOK rfl ?_
        | (refine isOps ?_
           first
           | refine s_byte tabOK rfl rfl rfl rfl (by omega) rfl ?_
           | refine s_add tabOK rfl rfl rfl (by omega) rfl ?_
           | (refine isLen ?_; refine sv rfl (ov_mlen tabOK rfl rfl rfl) rfl ?_)
           | (refine isBin ?_
              first
              | refine s_add tabOK rfl rfl rfl (by omega) rfl ?_
              | refine s_sub tabOK rfl rfl rfl (by omega) rfl ?_)
           | refine sx tabOK rfl ?_
           | (refine isGuard ?_
              first
              | refine s_splitT rfl rfl rfl (fun h => ?_) (fun h => ?_)
              | refine s_splitF rfl rfl rfl (fun h => ?_) (fun h => ?_)
              | refine s_splitTn rfl rfl rfl (fun h => ?_) (fun h => ?_)
              | refine s_splitFn rfl rfl rfl (fun h => ?_) (fun h => ?_)
              | refine s_split rfl rfl rfl (fun h => ?_) (fun h => ?_)))
        | (refine isCond ?_
           first
           | refine at_true rfl ?_
           | refine at_false rfl ?_
           | refine at_iftd rfl (fun h => ?_) (fun h => ?_)
           | refine at_iftn rfl (fun h => ?_) (fun h => ?_)
           | refine at_ift rfl (fun h => ?_) (fun h => ?_)
           | refine at_ifd rfl (fun h => ?_) (fun h => ?_)
           | refine at_ifn rfl (fun h => ?_) (fun h => ?_)
           | refine at_cond rfl (fun h => ?_) (fun h => ?_))
        | refine at_ret ?_
        | refine at_exit ?_
        | refine bk_hit ?_
        | refine bk_miss rfl ?_
        | refine ret_eq rfl ?_
      · refine congrArg V.bool ?_
        have hh : markOdd.contains (b.toNat : Int) = true := by
          rw [← markTab_any, ← hm, any_drop (d := 0) (by omega)]
          simp only [Bool.or_eq_true, decide_eq_true_eq]
          exact .inl h
        simp only [markB, hh, Bool.or_true]
      · refine ⟨i + 1, ⟨by omega, ?_⟩, by dsimp only; omega, down_env (ee_cons rfl rfl rfl (ee_cons rfl rfl rfl (ee_cons rfl rfl rfl ee_nil))) rfl rfl rfl rfl rfl⟩
        rw [← hm, any_drop (d := 0) (by omega : i < markTab.length)]
        have : decide ((((markTab.getD i 0).toNat : Nat) : Int) = b.toNat) = false := decide_eq_false h
        rw [this, Bool.false_or]
      · rename_i h0
        refine congrArg V.bool ?_
        have hh : markOdd.contains (b.toNat : Int) = false := by
          rw [← markTab_any, ← hm, any_end (by omega)]
        simp only [markB, h0, hh, Bool.or_false]

theorem IsSymbol_ok (l : List UInt8) (hl : l.length ≤ 1048576) : FC Try.prog 96 [.str l] [] 3 (fun x _ => x = .bool (isSymbol l)) := by
  refine fc_body tabOK Try.func96 rfl Try.ntmps96 rfl rfl rfl ?_
  refine at_seq (at_region ?_)
  refine sx tabOK rfl ?_
  refine aops_nil ?_
  refine at_seq ?_
  refine at_cut ⟨[(0, .str l), (31, .bool (headBad l))], [], 3, 43, []⟩ ?_ ?_
  · refine at_region ?_
    repeat' first
      | refine at_seq ?_
      | refine at_region ?_
      | refine aops_nil ?_
      | refine at_skip ?_
      | refine at_block ?_
      | refine sxs tabOK rfl ?_
      | (refine isOps ?_
         first
         | refine s_byte tabOK rfl rfl rfl rfl (by omega) rfl ?_
         | refine call_eq (isDigit_ok _) rfl rfl rfl rfl ?_
         | (refine isLen ?_; refine sv rfl (ov_mlen tabOK rfl rfl rfl) rfl ?_)
         | (refine isBin ?_
            first
            | refine s_add tabOK rfl rfl rfl (by omega) rfl ?_
            | refine s_sub tabOK rfl rfl rfl (by omega) rfl ?_)
         | refine sx tabOK rfl ?_
         | (refine isGuard ?_
            first
            | refine s_splitT rfl rfl rfl (fun h => ?_) (fun h => ?_)
            | refine s_splitF rfl rfl rfl (fun h => ?_) (fun h => ?_)
            | refine s_splitTn rfl rfl rfl (fun h => ?_) (fun h => ?_)
            | refine s_splitFn rfl rfl rfl (fun h => ?_) (fun h => ?_)
            | refine s_split rfl rfl rfl (fun h => ?_) (fun h => ?_)))
      | (refine isCond ?_
         first
         | refine at_true rfl ?_
         | refine at_false rfl ?_
         | refine at_iftd rfl (fun h => ?_) (fun h => ?_)
         | refine at_iftn rfl (fun h => ?_) (fun h => ?_)
         | refine at_ift rfl (fun h => ?_) (fun h => ?_)
         | refine at_ifd rfl (fun h => ?_) (fun h => ?_)
         | refine at_ifn rfl (fun h => ?_) (fun h => ?_)
         | refine at_cond rfl (fun h => ?_) (fun h => ?_))
      | refine at_ret ?_
      | refine at_exit ?_
      | refine bk_hit ?_
      | refine bk_miss rfl ?_
      | refine ret_eq rfl ?_
    all_goals refine down_env (ee_cons rfl rfl rfl (ee_cons rfl (congrArg V.bool ?_) rfl ee_nil)) rfl rfl rfl rfl rfl
    all_goals (simp_all [headBad]; try (intros; omega))
  · refine at_cond rfl (fun h => ?_) (fun h => ?_)
    · repeat' first
        | refine at_seq ?_
        | refine at_region ?_
        | refine aops_nil ?_
        | refine at_skip ?_
        | refine at_block ?_
        | refine sxs tabOK rfl ?_
        | (refine isOps ?_
           first
           | (refine isLen ?_; refine sv rfl (ov_mlen tabOK rfl rfl rfl) rfl ?_)
           | (refine isBin ?_
              first
              | refine s_add tabOK rfl rfl rfl (by omega) rfl ?_
              | refine s_sub tabOK rfl rfl rfl (by omega) rfl ?_)
           | refine sx tabOK rfl ?_
           | (refine isGuard ?_
              first
              | refine s_splitT rfl rfl rfl (fun h => ?_) (fun h => ?_)
              | refine s_splitF rfl rfl rfl (fun h => ?_) (fun h => ?_)
              | refine s_splitTn rfl rfl rfl (fun h => ?_) (fun h => ?_)
              | refine s_splitFn rfl rfl rfl (fun h => ?_) (fun h => ?_)
              | refine s_split rfl rfl rfl (fun h => ?_) (fun h => ?_)))
        | (refine isCond ?_
           first
           | refine at_true rfl ?_
           | refine at_false rfl ?_
           | refine at_iftd rfl (fun h => ?_) (fun h => ?_)
           | refine at_iftn rfl (fun h => ?_) (fun h => ?_)
           | refine at_ift rfl (fun h => ?_) (fun h => ?_)
           | refine at_ifd rfl (fun h => ?_) (fun h => ?_)
           | refine at_ifn rfl (fun h => ?_) (fun h => ?_)
           | refine at_cond rfl (fun h => ?_) (fun h => ?_))
        | refine at_ret ?_
        | refine at_exit ?_
        | refine bk_hit ?_
        | refine bk_miss rfl ?_
        | refine ret_eq rfl ?_
      simp [isSymbol, h]
    repeat' first
      | refine at_seq ?_
      | refine at_region ?_
      | refine aops_nil ?_
      | refine at_skip ?_
      | refine at_block ?_
      | refine sxs tabOK rfl ?_
      | (refine isOps ?_
         first
         | (refine isLen ?_; refine sv rfl (ov_mlen tabOK rfl rfl rfl) rfl ?_)
         | (refine isBin ?_
            first
            | refine s_add tabOK rfl rfl rfl (by omega) rfl ?_
            | refine s_sub tabOK rfl rfl rfl (by omega) rfl ?_)
         | refine sx tabOK rfl ?_
         | (refine isGuard ?_
            first
            | refine s_splitT rfl rfl rfl (fun h => ?_) (fun h => ?_)
            | refine s_splitF rfl rfl rfl (fun h => ?_) (fun h => ?_)
            | refine s_splitTn rfl rfl rfl (fun h => ?_) (fun h => ?_)
            | refine s_splitFn rfl rfl rfl (fun h => ?_) (fun h => ?_)
            | refine s_split rfl rfl rfl (fun h => ?_) (fun h => ?_)))
      | (refine isCond ?_
         first
         | refine at_true rfl ?_
         | refine at_false rfl ?_
         | refine at_iftd rfl (fun h => ?_) (fun h => ?_)
         | refine at_iftn rfl (fun h => ?_) (fun h => ?_)
         | refine at_ift rfl (fun h => ?_) (fun h => ?_)
         | refine at_ifd rfl (fun h => ?_) (fun h => ?_)
         | refine at_ifn rfl (fun h => ?_) (fun h => ?_)
         | refine at_cond rfl (fun h => ?_) (fun h => ?_))
      | refine at_ret ?_
      | refine at_exit ?_
      | refine bk_hit ?_
      | refine bk_miss rfl ?_
      | refine ret_eq rfl ?_
    refine at_loop (fun i : Nat => ⟨[(0, .str l), (3, .int .i64 i)], [], 3, 43, []⟩) (fun i => i ≤ l.length ∧ (l.drop i).all markB = l.all markB) (fun i => l.length - i) 0 ?_ ⟨Nat.zero_le _, by simp⟩ ?_
    · exact down_env (ee_cons rfl rfl rfl (ee_cons rfl rfl rfl ee_nil)) rfl rfl rfl rfl rfl
    · rintro i ⟨hi, hm⟩
      repeat' first
        | refine at_seq ?_
        | refine at_region ?_
        | refine aops_nil ?_
        | refine at_skip ?_
        | refine at_block ?_
        | refine sxs tabOK rfl ?_
        | (refine isOps ?_
           first
           | refine s_byte tabOK rfl rfl rfl rfl (by omega) rfl ?_
           | refine call_eq (symbolByte_ok _) rfl rfl rfl rfl ?_
           | refine s_add tabOK rfl rfl rfl (by omega) rfl ?_
           | (refine isLen ?_; refine sv rfl (ov_mlen tabOK rfl rfl rfl) rfl ?_)
           | (refine isBin ?_
              first
              | refine s_add tabOK rfl rfl rfl (by omega) rfl ?_
              | refine s_sub tabOK rfl rfl rfl (by omega) rfl ?_)
           | refine sx tabOK rfl ?_
           | (refine isGuard ?_
              first
              | refine s_splitT rfl rfl rfl (fun h => ?_) (fun h => ?_)
              | refine s_splitF rfl rfl rfl (fun h => ?_) (fun h => ?_)
              | refine s_splitTn rfl rfl rfl (fun h => ?_) (fun h => ?_)
              | refine s_splitFn rfl rfl rfl (fun h => ?_) (fun h => ?_)
              | refine s_split rfl rfl rfl (fun h => ?_) (fun h => ?_)))
        | (refine isCond ?_
           first
           | refine at_true rfl ?_
           | refine at_false rfl ?_
           | refine at_iftd rfl (fun h => ?_) (fun h => ?_)
           | refine at_iftn rfl (fun h => ?_) (fun h => ?_)
           | refine at_ift rfl (fun h => ?_) (fun h => ?_)
           | refine at_ifd rfl (fun h => ?_) (fun h => ?_)
           | refine at_ifn rfl (fun h => ?_) (fun h => ?_)
           | refine at_cond rfl (fun h => ?_) (fun h => ?_))
        | refine at_ret ?_
        | refine at_exit ?_
        | refine bk_hit ?_
        | refine bk_miss rfl ?_
        | refine ret_eq rfl ?_
      · rename_i h0 h1
        have h2 : markB (l.getD i 0) = false := by simpa using h
        refine congrArg V.bool ?_
        have : l.all markB = false := by rw [← hm, all_drop (d := 0) (by omega), h2]; rfl
        rw [isSymbol, this, Bool.and_false]
      · rename_i h0 h1
        have h2 : markB (l.getD i 0) = true := by simpa using h
        refine ⟨i + 1, ⟨by omega, ?_⟩, by dsimp only; omega, down_env (ee_cons rfl rfl rfl (ee_cons rfl rfl rfl ee_nil)) rfl rfl rfl rfl rfl⟩
        rw [← hm, all_drop (d := 0) (by omega : i < l.length), h2, Bool.true_and]
      · rename_i h0
        refine congrArg V.bool ?_
        have : l.all markB = true := by rw [← hm, all_end (by omega)]
        rw [isSymbol, this, h0]; rfl
theorem sIsSymbol_ok (l : List UInt8) (hl : l.length ≤ 1048576) : FC Try.prog 100 [.str l] [] 3 (fun x _ => x = .bool (isSymbol l)) := by
  refine fc_body tabOK Try.func100 rfl Try.ntmps100 rfl rfl rfl ?_
  refine at_seq (at_region ?_)
  refine sx tabOK rfl ?_
  refine aops_nil ?_
  refine at_seq ?_
  refine at_cut ⟨[(0, .str l), (27, .bool (headBad l))], [], 3, 39, []⟩ ?_ ?_
  · refine at_region ?_
    repeat' first
      | refine at_seq ?_
      | refine at_region ?_
      | refine aops_nil ?_
      | refine at_skip ?_
      | refine at_block ?_
      | refine sxs tabOK rfl ?_
      | (refine isOps ?_
         first
         | refine s_byte tabOK rfl rfl rfl rfl (by first | omega | (simp_all [inside]; omega)) rfl ?_
         | refine call_eq (l1In_ok _ _ _) rfl rfl rfl rfl ?_
         | refine call_eq (l1Digit_ok _) rfl rfl rfl rfl ?_
         | (refine isLen ?_; refine sv rfl (ov_mlen tabOK rfl rfl rfl) rfl ?_)
         | (refine isBin ?_
            first
            | refine s_add tabOK rfl rfl rfl (by omega) rfl ?_
            | refine s_sub tabOK rfl rfl rfl (by omega) rfl ?_)
         | refine sx tabOK rfl ?_
         | (refine isGuard ?_
            first
            | refine s_splitT rfl rfl rfl (fun h => ?_) (fun h => ?_)
            | refine s_splitF rfl rfl rfl (fun h => ?_) (fun h => ?_)
            | refine s_splitTn rfl rfl rfl (fun h => ?_) (fun h => ?_)
            | refine s_splitFn rfl rfl rfl (fun h => ?_) (fun h => ?_)
            | refine s_split rfl rfl rfl (fun h => ?_) (fun h => ?_)))
      | (refine isCond ?_
         first
         | refine at_true rfl ?_
         | refine at_false rfl ?_
         | refine at_iftd rfl (fun h => ?_) (fun h => ?_)
         | refine at_iftn rfl (fun h => ?_) (fun h => ?_)
         | refine at_ift rfl (fun h => ?_) (fun h => ?_)
         | refine at_ifd rfl (fun h => ?_) (fun h => ?_)
         | refine at_ifn rfl (fun h => ?_) (fun h => ?_)
         | refine at_cond rfl (fun h => ?_) (fun h => ?_))
      | refine at_ret ?_
      | refine at_exit ?_
      | refine bk_hit ?_
      | refine bk_miss rfl ?_
      | refine ret_eq rfl ?_
    all_goals refine down_env (ee_cons rfl rfl rfl (ee_cons rfl (congrArg V.bool ?_) rfl ee_nil)) rfl rfl rfl rfl rfl
    all_goals (simp_all [headBad, inside]; try (intros; omega))
  · refine at_cond rfl (fun h => ?_) (fun h => ?_)
    · repeat' first
        | refine at_seq ?_
        | refine at_region ?_
        | refine aops_nil ?_
        | refine at_skip ?_
        | refine at_block ?_
        | refine sxs tabOK rfl ?_
        | (refine isOps ?_
           first
           | (refine isLen ?_; refine sv rfl (ov_mlen tabOK rfl rfl rfl) rfl ?_)
           | (refine isBin ?_
              first
              | refine s_add tabOK rfl rfl rfl (by omega) rfl ?_
              | refine s_sub tabOK rfl rfl rfl (by omega) rfl ?_)
           | refine sx tabOK rfl ?_
           | (refine isGuard ?_
              first
              | refine s_splitT rfl rfl rfl (fun h => ?_) (fun h => ?_)
              | refine s_splitF rfl rfl rfl (fun h => ?_) (fun h => ?_)
              | refine s_splitTn rfl rfl rfl (fun h => ?_) (fun h => ?_)
              | refine s_splitFn rfl rfl rfl (fun h => ?_) (fun h => ?_)
              | refine s_split rfl rfl rfl (fun h => ?_) (fun h => ?_)))
        | (refine isCond ?_
           first
           | refine at_true rfl ?_
           | refine at_false rfl ?_
           | refine at_iftd rfl (fun h => ?_) (fun h => ?_)
           | refine at_iftn rfl (fun h => ?_) (fun h => ?_)
           | refine at_ift rfl (fun h => ?_) (fun h => ?_)
           | refine at_ifd rfl (fun h => ?_) (fun h => ?_)
           | refine at_ifn rfl (fun h => ?_) (fun h => ?_)
           | refine at_cond rfl (fun h => ?_) (fun h => ?_))
        | refine at_ret ?_
        | refine at_exit ?_
        | refine bk_hit ?_
        | refine bk_miss rfl ?_
        | refine ret_eq rfl ?_
      simp [isSymbol, h]
    repeat' first
      | refine at_seq ?_
      | refine at_region ?_
      | refine aops_nil ?_
      | refine at_skip ?_
      | refine at_block ?_
      | refine sxs tabOK rfl ?_
      | (refine isOps ?_
         first
         | (refine isLen ?_; refine sv rfl (ov_mlen tabOK rfl rfl rfl) rfl ?_)
         | (refine isBin ?_
            first
            | refine s_add tabOK rfl rfl rfl (by omega) rfl ?_
            | refine s_sub tabOK rfl rfl rfl (by omega) rfl ?_)
         | refine sx tabOK rfl ?_
         | (refine isGuard ?_
            first
            | refine s_splitT rfl rfl rfl (fun h => ?_) (fun h => ?_)
            | refine s_splitF rfl rfl rfl (fun h => ?_) (fun h => ?_)
            | refine s_splitTn rfl rfl rfl (fun h => ?_) (fun h => ?_)
            | refine s_splitFn rfl rfl rfl (fun h => ?_) (fun h => ?_)
            | refine s_split rfl rfl rfl (fun h => ?_) (fun h => ?_)))
      | (refine isCond ?_
         first
         | refine at_true rfl ?_
         | refine at_false rfl ?_
         | refine at_iftd rfl (fun h => ?_) (fun h => ?_)
         | refine at_iftn rfl (fun h => ?_) (fun h => ?_)
         | refine at_ift rfl (fun h => ?_) (fun h => ?_)
         | refine at_ifd rfl (fun h => ?_) (fun h => ?_)
         | refine at_ifn rfl (fun h => ?_) (fun h => ?_)
         | refine at_cond rfl (fun h => ?_) (fun h => ?_))
      | refine at_ret ?_
      | refine at_exit ?_
      | refine bk_hit ?_
      | refine bk_miss rfl ?_
      | refine ret_eq rfl ?_
    refine at_loop (fun i : Nat => ⟨[(0, .str l), (3, .int .i64 i)], [], 3, 39, []⟩) (fun i => i ≤ l.length ∧ (l.drop i).all markB = l.all markB) (fun i => l.length - i) 0 ?_ ⟨Nat.zero_le _, by simp⟩ ?_
    · exact down_env (ee_cons rfl rfl rfl (ee_cons rfl rfl rfl ee_nil)) rfl rfl rfl rfl rfl
    · rintro i ⟨hi, hm⟩
      repeat' first
        | refine at_seq ?_
        | refine at_region ?_
        | refine aops_nil ?_
        | refine at_skip ?_
        | refine at_block ?_
        | refine sxs tabOK rfl ?_
        | (refine isOps ?_
           first
           | refine s_byte tabOK rfl rfl rfl rfl (by omega) rfl ?_
           | refine call_eq (l1Mark_ok _) rfl rfl rfl rfl ?_
           | refine s_add tabOK rfl rfl rfl (by omega) rfl ?_
           | (refine isLen ?_; refine sv rfl (ov_mlen tabOK rfl rfl rfl) rfl ?_)
           | (refine isBin ?_
              first
              | refine s_add tabOK rfl rfl rfl (by omega) rfl ?_
              | refine s_sub tabOK rfl rfl rfl (by omega) rfl ?_)
           | refine sx tabOK rfl ?_
           | (refine isGuard ?_
              first
              | refine s_splitT rfl rfl rfl (fun h => ?_) (fun h => ?_)
              | refine s_splitF rfl rfl rfl (fun h => ?_) (fun h => ?_)
              | refine s_splitTn rfl rfl rfl (fun h => ?_) (fun h => ?_)
              | refine s_splitFn rfl rfl rfl (fun h => ?_) (fun h => ?_)
              | refine s_split rfl rfl rfl (fun h => ?_) (fun h => ?_)))
        | (refine isCond ?_
           first
           | refine at_true rfl ?_
           | refine at_false rfl ?_
           | refine at_iftd rfl (fun h => ?_) (fun h => ?_)
           | refine at_iftn rfl (fun h => ?_) (fun h => ?_)
           | refine at_ift rfl (fun h => ?_) (fun h => ?_)
           | refine at_ifd rfl (fun h => ?_) (fun h => ?_)
           | refine at_ifn rfl (fun h => ?_) (fun h => ?_)
           | refine at_cond rfl (fun h => ?_) (fun h => ?_))
        | refine at_ret ?_
        | refine at_exit ?_
        | refine bk_hit ?_
        | refine bk_miss rfl ?_
        | refine ret_eq rfl ?_
      · rename_i h0 h1
        have h2 : markB (l.getD i 0) = false := by simpa using h
        refine congrArg V.bool ?_
        have : l.all markB = false := by rw [← hm, all_drop (d := 0) (by omega), h2]; rfl
        rw [isSymbol, this, Bool.and_false]
      · rename_i h0 h1
        have h2 : markB (l.getD i 0) = true := by simpa using h
        refine ⟨i + 1, ⟨by omega, ?_⟩, by dsimp only; omega, down_env (ee_cons rfl rfl rfl (ee_cons rfl rfl rfl ee_nil)) rfl rfl rfl rfl rfl⟩
        rw [← hm, all_drop (d := 0) (by omega : i < l.length), h2, Bool.true_and]
      · rename_i h0
        refine congrArg V.bool ?_
        have : l.all markB = true := by rw [← hm, all_end (by omega)]
        rw [isSymbol, this, h0]; rfl

theorem stringText_ok (l : List UInt8) (hl : l.length ≤ 1048576) : FC Try.prog 97 [.str l] [] 3 (fun x _ => x = .bool (isText l)) := by
  refine fc_body tabOK Try.func97 rfl Try.ntmps97 rfl rfl rfl ?_
  refine at_seq (at_region ?_)
  refine sx tabOK rfl ?_
  refine aops_nil ?_
  repeat' first
    | refine at_seq ?_
    | refine at_region ?_
    | refine aops_nil ?_
    | refine at_skip ?_
    | refine at_block ?_
    | refine sxs tabOK rfl ?_
    | (refine isOps ?_
       first
       | (refine isLen ?_; refine sv rfl (ov_mlen tabOK rfl rfl rfl) rfl ?_)
       | (refine isBin ?_
          first
          | refine s_add tabOK rfl rfl rfl (by omega) rfl ?_
          | refine s_sub tabOK rfl rfl rfl (by omega) rfl ?_)
       | refine sx tabOK rfl ?_
       | (refine isGuard ?_
          first
          | refine s_splitT rfl rfl rfl (fun h => ?_) (fun h => ?_)
          | refine s_splitF rfl rfl rfl (fun h => ?_) (fun h => ?_)
          | refine s_splitTn rfl rfl rfl (fun h => ?_) (fun h => ?_)
          | refine s_splitFn rfl rfl rfl (fun h => ?_) (fun h => ?_)
          | refine s_split rfl rfl rfl (fun h => ?_) (fun h => ?_)))
    | (refine isCond ?_
       first
       | refine at_true rfl ?_
       | refine at_false rfl ?_
       | refine at_iftd rfl (fun h => ?_) (fun h => ?_)
       | refine at_iftn rfl (fun h => ?_) (fun h => ?_)
       | refine at_ift rfl (fun h => ?_) (fun h => ?_)
       | refine at_ifd rfl (fun h => ?_) (fun h => ?_)
       | refine at_ifn rfl (fun h => ?_) (fun h => ?_)
       | refine at_cond rfl (fun h => ?_) (fun h => ?_))
    | refine at_ret ?_
    | refine at_exit ?_
    | refine bk_hit ?_
    | refine bk_miss rfl ?_
    | refine ret_eq rfl ?_
  · refine congrArg V.bool ?_
    have : decide ((l.length : Int) ≤ 20) = false := decide_eq_false (by omega)
    simp only [isText, this, Bool.false_and]
  refine at_loop (fun i : Nat => ⟨[(0, .str l), (3, .int .i64 i)], [], 3, 29, []⟩) (fun i => i ≤ l.length ∧ ((l.drop i).all fun b => !badChar b) = l.all fun b => !badChar b) (fun i => l.length - i) 0 ?_ ⟨Nat.zero_le _, by simp⟩ ?_
  · exact down_env (ee_cons rfl rfl rfl (ee_cons rfl rfl rfl ee_nil)) rfl rfl rfl rfl rfl
  · rintro i ⟨hi, hm⟩
    repeat' first
      | refine at_cut (x := .region 6 _ _) ⟨[(0, .str l), (3, .int .i64 i), (28, .bool (badChar (l.getD i 0)))], [], 3, 29, []⟩ ?_ ?_
      | refine at_seq ?_
      | refine at_region ?_
      | refine aops_nil ?_
      | refine at_skip ?_
      | refine at_block ?_
      | refine sxs tabOK rfl ?_
      | (refine isOps ?_
         first
         | refine s_byte tabOK rfl rfl rfl rfl (by omega) rfl ?_
         | refine s_add tabOK rfl rfl rfl (by omega) rfl ?_
         | (refine isLen ?_; refine sv rfl (ov_mlen tabOK rfl rfl rfl) rfl ?_)
         | (refine isBin ?_
            first
            | refine s_add tabOK rfl rfl rfl (by omega) rfl ?_
            | refine s_sub tabOK rfl rfl rfl (by omega) rfl ?_)
         | refine sx tabOK rfl ?_
         | (refine isGuard ?_
            first
            | refine s_splitT rfl rfl rfl (fun h => ?_) (fun h => ?_)
            | refine s_splitF rfl rfl rfl (fun h => ?_) (fun h => ?_)
            | refine s_splitTn rfl rfl rfl (fun h => ?_) (fun h => ?_)
            | refine s_splitFn rfl rfl rfl (fun h => ?_) (fun h => ?_)
            | refine s_split rfl rfl rfl (fun h => ?_) (fun h => ?_)))
      | (refine isCond ?_
         first
         | refine at_true rfl ?_
         | refine at_false rfl ?_
         | refine at_iftd rfl (fun h => ?_) (fun h => ?_)
         | refine at_iftn rfl (fun h => ?_) (fun h => ?_)
         | refine at_ift rfl (fun h => ?_) (fun h => ?_)
         | refine at_ifd rfl (fun h => ?_) (fun h => ?_)
         | refine at_ifn rfl (fun h => ?_) (fun h => ?_)
         | refine at_cond rfl (fun h => ?_) (fun h => ?_))
      | refine at_ret ?_
      | refine at_exit ?_
      | refine bk_hit ?_
      | refine bk_miss rfl ?_
      | refine ret_eq rfl ?_
    · refine down_env (ee_cons rfl rfl rfl (ee_cons rfl rfl rfl (ee_cons rfl (congrArg V.bool ?_) rfl ee_nil))) rfl rfl rfl rfl rfl
      simp_all [badChar]
      try (intros; omega)
    · refine down_env (ee_cons rfl rfl rfl (ee_cons rfl rfl rfl (ee_cons rfl (congrArg V.bool ?_) rfl ee_nil))) rfl rfl rfl rfl rfl
      simp_all [badChar]
      try (intros; omega)
    · refine down_env (ee_cons rfl rfl rfl (ee_cons rfl rfl rfl (ee_cons rfl (congrArg V.bool ?_) rfl ee_nil))) rfl rfl rfl rfl rfl
      simp_all [badChar]
      try (intros; omega)
    · refine congrArg V.bool ?_
      have : (l.all fun b => !badChar b) = false := by rw [← hm, all_drop (d := 0) (by omega), h]; rfl
      rw [isText, this, Bool.and_false]
    · refine ⟨i + 1, ⟨by omega, ?_⟩, by dsimp only; omega, down_env (ee_cons rfl rfl rfl (ee_cons rfl rfl rfl ee_nil)) rfl rfl rfl rfl rfl⟩
      rw [← hm, all_drop (d := 0) (by omega : i < l.length), h]; rfl
    · refine congrArg V.bool ?_
      have : (l.all fun b => !badChar b) = true := by rw [← hm, all_end (by omega)]
      rw [isText, this, Bool.and_true]
      exact (decide_eq_true (by omega)).symm
theorem l1String_ok (l : List UInt8) (hl : l.length ≤ 1048576) : FC Try.prog 101 [.str l] [] 3 (fun x _ => x = .bool (isText l)) := by
  refine fc_body tabOK Try.func101 rfl Try.ntmps101 rfl rfl rfl ?_
  refine at_seq (at_region ?_)
  refine sx tabOK rfl ?_
  refine aops_nil ?_
  repeat' first
    | refine at_seq ?_
    | refine at_region ?_
    | refine aops_nil ?_
    | refine at_skip ?_
    | refine at_block ?_
    | refine sxs tabOK rfl ?_
    | (refine isOps ?_
       first
       | (refine isLen ?_; refine sv rfl (ov_mlen tabOK rfl rfl rfl) rfl ?_)
       | (refine isBin ?_
          first
          | refine s_add tabOK rfl rfl rfl (by omega) rfl ?_
          | refine s_sub tabOK rfl rfl rfl (by omega) rfl ?_)
       | refine sx tabOK rfl ?_
       | (refine isGuard ?_
          first
          | refine s_splitT rfl rfl rfl (fun h => ?_) (fun h => ?_)
          | refine s_splitF rfl rfl rfl (fun h => ?_) (fun h => ?_)
          | refine s_splitTn rfl rfl rfl (fun h => ?_) (fun h => ?_)
          | refine s_splitFn rfl rfl rfl (fun h => ?_) (fun h => ?_)
          | refine s_split rfl rfl rfl (fun h => ?_) (fun h => ?_)))
    | (refine isCond ?_
       first
       | refine at_true rfl ?_
       | refine at_false rfl ?_
       | refine at_iftd rfl (fun h => ?_) (fun h => ?_)
       | refine at_iftn rfl (fun h => ?_) (fun h => ?_)
       | refine at_ift rfl (fun h => ?_) (fun h => ?_)
       | refine at_ifd rfl (fun h => ?_) (fun h => ?_)
       | refine at_ifn rfl (fun h => ?_) (fun h => ?_)
       | refine at_cond rfl (fun h => ?_) (fun h => ?_))
    | refine at_ret ?_
    | refine at_exit ?_
    | refine bk_hit ?_
    | refine bk_miss rfl ?_
    | refine ret_eq rfl ?_
  refine at_loop (fun i : Nat => ⟨[(0, .str l), (3, .int .i64 i)], [], 3, 29, []⟩) (fun i => i ≤ l.length ∧ ((l.drop i).all fun b => !badChar b) = l.all fun b => !badChar b) (fun i => l.length - i) 0 ?_ ⟨Nat.zero_le _, by simp⟩ ?_
  · exact down_env (ee_cons rfl rfl rfl (ee_cons rfl rfl rfl ee_nil)) rfl rfl rfl rfl rfl
  · rintro i ⟨hi, hm⟩
    repeat' first
      | refine at_cut (x := .region 4 _ _) ⟨[(0, .str l), (3, .int .i64 i), (25, .bool (badChar (l.getD i 0)))], [], 3, 29, []⟩ ?_ ?_
      | refine at_seq ?_
      | refine at_region ?_
      | refine aops_nil ?_
      | refine at_skip ?_
      | refine at_block ?_
      | refine sxs tabOK rfl ?_
      | (refine isOps ?_
         first
         | refine s_byte tabOK rfl rfl rfl rfl (by omega) rfl ?_
         | refine s_add tabOK rfl rfl rfl (by omega) rfl ?_
         | (refine isLen ?_; refine sv rfl (ov_mlen tabOK rfl rfl rfl) rfl ?_)
         | (refine isBin ?_
            first
            | refine s_add tabOK rfl rfl rfl (by omega) rfl ?_
            | refine s_sub tabOK rfl rfl rfl (by omega) rfl ?_)
         | refine sx tabOK rfl ?_
         | (refine isGuard ?_
            first
            | refine s_splitT rfl rfl rfl (fun h => ?_) (fun h => ?_)
            | refine s_splitF rfl rfl rfl (fun h => ?_) (fun h => ?_)
            | refine s_splitTn rfl rfl rfl (fun h => ?_) (fun h => ?_)
            | refine s_splitFn rfl rfl rfl (fun h => ?_) (fun h => ?_)
            | refine s_split rfl rfl rfl (fun h => ?_) (fun h => ?_)))
      | (refine isCond ?_
         first
         | refine at_true rfl ?_
         | refine at_false rfl ?_
         | refine at_iftd rfl (fun h => ?_) (fun h => ?_)
         | refine at_iftn rfl (fun h => ?_) (fun h => ?_)
         | refine at_ift rfl (fun h => ?_) (fun h => ?_)
         | refine at_ifd rfl (fun h => ?_) (fun h => ?_)
         | refine at_ifn rfl (fun h => ?_) (fun h => ?_)
         | refine at_cond rfl (fun h => ?_) (fun h => ?_))
      | refine at_ret ?_
      | refine at_exit ?_
      | refine bk_hit ?_
      | refine bk_miss rfl ?_
      | refine ret_eq rfl ?_
    · refine down_env (ee_cons rfl rfl rfl (ee_cons rfl rfl rfl (ee_cons rfl (congrArg V.bool ?_) rfl ee_nil))) rfl rfl rfl rfl rfl
      simp_all [badChar]
      try (intros; omega)
    · refine down_env (ee_cons rfl rfl rfl (ee_cons rfl rfl rfl (ee_cons rfl (congrArg V.bool ?_) rfl ee_nil))) rfl rfl rfl rfl rfl
      simp_all [badChar]
      try (intros; omega)
    · refine down_env (ee_cons rfl rfl rfl (ee_cons rfl rfl rfl (ee_cons rfl (congrArg V.bool ?_) rfl ee_nil))) rfl rfl rfl rfl rfl
      simp_all [badChar]
      try (intros; omega)
    · refine congrArg V.bool ?_
      have : (l.all fun b => !badChar b) = false := by rw [← hm, all_drop (d := 0) (by omega), h]; rfl
      rw [isText, this, Bool.and_false]
    · refine ⟨i + 1, ⟨by omega, ?_⟩, by dsimp only; omega, down_env (ee_cons rfl rfl rfl (ee_cons rfl rfl rfl ee_nil)) rfl rfl rfl rfl rfl⟩
      rw [← hm, all_drop (d := 0) (by omega : i < l.length), h]; rfl
    · refine congrArg V.bool ?_
      have : (l.all fun b => !badChar b) = true := by rw [← hm, all_end (by omega)]
      rw [isText, this, Bool.and_true]

theorem rl_prim : V.rl f01 (.psl 1 1 primRows) = .psl 1 1 primRows := rfl
theorem PrimitiveNames_ok : FC Try.prog 95 [] [] 3 (fun x _ => x = .psl 1 1 primRows) := by
  refine fc_body tabOK Try.func95 rfl Try.ntmps95 rfl rfl rfl ?_
  repeat' first
    | refine ops_freeze 1 rfl rfl rfl ?_
    | refine at_seq ?_
    | refine at_region ?_
    | refine aops_nil ?_
    | refine at_skip ?_
    | refine at_block ?_
    | refine sxs tabOK rfl ?_
    | (refine isOps ?_
       first
       | refine s_slit tabOK rfl rfl rfl rfl rfl rfl rfl ?_
       | (refine isLen ?_; refine sv rfl (ov_mlen tabOK rfl rfl rfl) rfl ?_)
       | (refine isBin ?_
          first
          | refine s_add tabOK rfl rfl rfl (by omega) rfl ?_
          | refine s_sub tabOK rfl rfl rfl (by omega) rfl ?_)
       | refine sx tabOK rfl ?_
       | (refine isGuard ?_
          first
          | refine s_splitT rfl rfl rfl (fun h => ?_) (fun h => ?_)
          | refine s_splitF rfl rfl rfl (fun h => ?_) (fun h => ?_)
          | refine s_splitTn rfl rfl rfl (fun h => ?_) (fun h => ?_)
          | refine s_splitFn rfl rfl rfl (fun h => ?_) (fun h => ?_)
          | refine s_split rfl rfl rfl (fun h => ?_) (fun h => ?_)))
    | (refine isCond ?_
       first
       | refine at_true rfl ?_
       | refine at_false rfl ?_
       | refine at_iftd rfl (fun h => ?_) (fun h => ?_)
       | refine at_iftn rfl (fun h => ?_) (fun h => ?_)
       | refine at_ift rfl (fun h => ?_) (fun h => ?_)
       | refine at_ifd rfl (fun h => ?_) (fun h => ?_)
       | refine at_ifn rfl (fun h => ?_) (fun h => ?_)
       | refine at_cond rfl (fun h => ?_) (fun h => ?_))
    | refine at_ret ?_
    | refine at_exit ?_
    | refine bk_hit ?_
    | refine bk_miss rfl ?_
    | refine ret_eq rfl ?_
  rfl

theorem sPrimitiveNames_ok : FC Try.prog 102 [] [] 3 (fun x _ => x = .psl 1 1 primRows) := by
  refine fc_body tabOK Try.func102 rfl Try.ntmps102 rfl rfl rfl ?_
  repeat' first
    | refine ops_freeze 1 rfl rfl rfl ?_
    | refine at_seq ?_
    | refine at_region ?_
    | refine aops_nil ?_
    | refine at_skip ?_
    | refine at_block ?_
    | refine sxs tabOK rfl ?_
    | (refine isOps ?_
       first
       | refine s_slit tabOK rfl rfl rfl rfl rfl rfl rfl ?_
       | (refine isLen ?_; refine sv rfl (ov_mlen tabOK rfl rfl rfl) rfl ?_)
       | (refine isBin ?_
          first
          | refine s_add tabOK rfl rfl rfl (by omega) rfl ?_
          | refine s_sub tabOK rfl rfl rfl (by omega) rfl ?_)
       | refine sx tabOK rfl ?_
       | (refine isGuard ?_
          first
          | refine s_splitT rfl rfl rfl (fun h => ?_) (fun h => ?_)
          | refine s_splitF rfl rfl rfl (fun h => ?_) (fun h => ?_)
          | refine s_splitTn rfl rfl rfl (fun h => ?_) (fun h => ?_)
          | refine s_splitFn rfl rfl rfl (fun h => ?_) (fun h => ?_)
          | refine s_split rfl rfl rfl (fun h => ?_) (fun h => ?_)))
    | (refine isCond ?_
       first
       | refine at_true rfl ?_
       | refine at_false rfl ?_
       | refine at_iftd rfl (fun h => ?_) (fun h => ?_)
       | refine at_iftn rfl (fun h => ?_) (fun h => ?_)
       | refine at_ift rfl (fun h => ?_) (fun h => ?_)
       | refine at_ifd rfl (fun h => ?_) (fun h => ?_)
       | refine at_ifn rfl (fun h => ?_) (fun h => ?_)
       | refine at_cond rfl (fun h => ?_) (fun h => ?_))
    | refine at_ret ?_
    | refine at_exit ?_
    | refine bk_hit ?_
    | refine bk_miss rfl ?_
    | refine ret_eq rfl ?_
  rfl

end Go.Proofs.Ytiecdekmiabmkaa
