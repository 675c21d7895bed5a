/-
  The law on primitives of numbers: its contract.
-/
import Derived.Test.YtiecdekmiabmkaaWkApply
import Derived.Test.YtiecdekmiabmkaaAbsQ
set_option linter.unusedVariables false
set_option linter.unusedSimpArgs false
namespace Go.Proofs.Ytiecdekmiabmkaa
open Go.Abs
attribute [local irreducible] AT AOps FC DR applyPrim
set_option maxRecDepth 4000
set_option maxHeartbeats 4000000

def byteEnc (b : UInt8) : List V := [.int .u8 b.toNat]
theorem rl_by {f : Nat → Nat} (b : UInt8) : V.rlL f (byteEnc b) = byteEnc b := rfl

theorem at_ok (bs : List UInt8) (i : Int) (hi : 0 ≤ i ∧ i ≤ 100) (hb : bs.length ≤ 1048576) : FC Try.prog 12 [.psl 0 1 (bs.map byteEnc), .int .i64 i] [] 3 (fun x _ => ∃ n : Int, x = .int .i64 n ∧ 0 ≤ n ∧ n ≤ 255) := by
  refine fc_body tabOK Try.func12 rfl Try.ntmps12 rfl rfl rfl ?_
  repeat' first
    | refine at_seq ?_
    | refine at_region ?_
    | refine aops_nil ?_
    | refine at_skip ?_
    | refine at_block ?_
    | refine sxs tabOK rfl ?_
    | (refine isOps ?_
       first
       | refine sv rfl (ov_addr tabOK rfl rfl rfl rfl (by omega) (map_get (d := default) (by omega))) rfl ?_
       | refine sv rfl (ov_toInt tabOK rfl rfl rfl (by have := (bs.getD i.toNat default).toNat_lt; omega)) rfl ?_
       | refine s_mul tabOK rfl rfl rfl (by omega) rfl ?_
       | refine sv rfl (ov_rem rfl rfl (by omega)) rfl ?_
       | (refine isLen ?_; refine sv rfl (ov_mlen tabOK rfl rfl rfl) rfl ?_)
       | (refine isBin ?_
          first
          | refine s_add tabOK rfl rfl rfl (by omega) rfl ?_
          | refine s_sub tabOK rfl rfl rfl (by omega) rfl ?_)
       | refine sx tabOK rfl ?_
       | (refine isGuard ?_
          first
          | refine s_splitT rfl rfl rfl (fun h => ?_) (fun h => ?_)
          | refine s_splitF rfl rfl rfl (fun h => ?_) (fun h => ?_)
          | refine s_splitTn rfl rfl rfl (fun h => ?_) (fun h => ?_)
          | refine s_splitFn rfl rfl rfl (fun h => ?_) (fun h => ?_)
          | refine s_split rfl rfl rfl (fun h => ?_) (fun h => ?_)))
    | (refine isCond ?_
       first
       | refine at_true rfl ?_
       | refine at_false rfl ?_
       | refine at_iftd rfl (fun h => ?_) (fun h => ?_)
       | refine at_iftn rfl (fun h => ?_) (fun h => ?_)
       | refine at_ift rfl (fun h => ?_) (fun h => ?_)
       | refine at_ifd rfl (fun h => ?_) (fun h => ?_)
       | refine at_ifn rfl (fun h => ?_) (fun h => ?_)
       | refine at_cond rfl (fun h => ?_) (fun h => ?_))
    | refine at_ret ?_
    | refine at_exit ?_
    | refine bk_hit ?_
    | refine bk_miss rfl ?_
    | refine ret_eq rfl ?_
  · show retK tab _ (fun x _ => ∃ n : Int, x = .int .i64 n ∧ 0 ≤ n ∧ n ≤ 255) .ret _
    refine ret_intro (r := .int .i64 (bs.getD i.toNat default).toNat) rfl ?_
    have := (bs.getD i.toNat default).toNat_lt
    exact ⟨_, rfl, by omega⟩
  · show retK tab _ (fun x _ => ∃ n : Int, x = .int .i64 n ∧ 0 ≤ n ∧ n ≤ 255) .ret _
    refine ret_intro (r := .int .i64 ((i * 37 + bs.length * 11) % 256)) rfl ?_
    exact ⟨_, rfl, by omega⟩

theorem ov_vsame {P : Program} {s : St} {t t' : Nat} {x y : Operand} {v : PVal} (V : VEq P t) (hx : ev s x = .agg v.enc) (hy : ev s y = .agg v.enc) : OpVal P s (.binOp .eql t x y t') (.bool true) := by
  have h := ov_veq (t' := t') V hx hy
  rwa [decide_eq_true rfl] at h

def num3 (n : Int) : PVal := ⟨3, n, []⟩

theorem prim_fc (k n1 n2 : Int) (r : PVal) (hk : 0 ≤ k ∧ k ≤ 4) (h1 : -999999999 ≤ n1 ∧ n1 ≤ 999999999) (h2 : -999999999 ≤ n2 ∧ n2 ≤ 999999999) (hr : numbers k n1 n2 = (r, [])) :
    FC Try.prog 13 [.int .i64 k, .psl 0 3 [(num3 n1).enc, (num3 n2).enc], .nilsl] [] 3 (fun x _ => x = .tup [.agg r.enc, .str []]) := by
  have hc := ApplyPrimitive_ok k [num3 n1, num3 n2] [] ⟨by simp, by intro v hv; simp at hv; rcases hv with rfl | rfl <;> (show ([] : List UInt8).length ≤ _; decide)⟩ ⟨by decide, by simp⟩
  have hp : isPrim k = true := by simp [isPrim, inside]; omega
  have ha : arity k = 2 := by have := arity_range hp; omega
  have hv : [num3 n1, num3 n2].all (isVal (([] : List PPair).length : Int)) = true := by simp [isVal, num3, inside]; omega
  have e : applyPrim k [num3 n1, num3 n2] [] = (r, []) := by
    unfold applyPrim
    rw [if_pos ⟨hp, by decide⟩, if_pos (by rw [ha]; rfl), if_pos hv]
    have e2 : applied k ([num3 n1, num3 n2].getD 0 default) ([num3 n1, num3 n2].getD 1 default) [] = numbers k n1 n2 := by
      show applied k (num3 n1) (num3 n2) [] = numbers k n1 n2
      unfold applied
      rw [if_neg (by omega), if_neg (by omega), if_neg (by omega), if_neg (by omega), if_neg (by omega), if_neg (by omega), if_neg (by omega), if_pos ⟨rfl, rfl⟩]
      rfl
    rw [e2, hr]
  rw [e] at hc
  exact hc.weaken (.cons (vle_refl _) (.cons (vle_refl _) (.cons (vle_nil _ _) .nil)))

def bytesWf (bs : List UInt8) : Prop := bs.length ≤ 9223372036854775807 ∧ ∀ b ∈ bs, True

theorem FnPrimitives_fc (bs : List UInt8) (hb' : bytesWf bs) : FC Try.prog 3 [.psl 0 1 (bs.map byteEnc)] [] 3 (fun x _ => x = .bool true) := by
  have hb := hb'.1
  refine fc_body tabOK Try.func3 rfl Try.ntmps3 rfl rfl rfl ?_
  repeat' first
    | refine at_seq ?_
    | refine at_region ?_
    | refine aops_nil ?_
    | refine at_skip ?_
    | refine at_block ?_
    | refine sxs tabOK rfl ?_
    | (refine isOps ?_
       first
       | (refine call_fresh (at_ok bs _ (by omega) (by omega)) rfl (rlL_cons (rl_psl rl_by rfl) (rlL_cons rfl rlL_nil)) (fun x _ e => ?_); obtain ⟨n, rfl, hn0, hn1⟩ := e; refine ⟨_, rfl, ?_⟩)
       | refine s_mul tabOK rfl rfl rfl (by omega) rfl ?_
       | refine sv rfl (ov_build tabOK rfl rfl) rfl ?_
       | (refine isLen ?_; refine sv rfl (ov_mlen tabOK rfl rfl rfl) rfl ?_)
       | (refine isBin ?_
          first
          | refine s_add tabOK rfl rfl rfl (by omega) rfl ?_
          | refine s_sub tabOK rfl rfl rfl (by omega) rfl ?_)
       | refine sx tabOK rfl ?_
       | (refine isGuard ?_
          first
          | refine s_splitT rfl rfl rfl (fun h => ?_) (fun h => ?_)
          | refine s_splitF rfl rfl rfl (fun h => ?_) (fun h => ?_)
          | refine s_splitTn rfl rfl rfl (fun h => ?_) (fun h => ?_)
          | refine s_splitFn rfl rfl rfl (fun h => ?_) (fun h => ?_)
          | refine s_split rfl rfl rfl (fun h => ?_) (fun h => ?_)))
    | (refine isCond ?_
       first
       | refine at_true rfl ?_
       | refine at_false rfl ?_
       | refine at_iftd rfl (fun h => ?_) (fun h => ?_)
       | refine at_iftn rfl (fun h => ?_) (fun h => ?_)
       | refine at_ift rfl (fun h => ?_) (fun h => ?_)
       | refine at_ifd rfl (fun h => ?_) (fun h => ?_)
       | refine at_ifn rfl (fun h => ?_) (fun h => ?_)
       | refine at_cond rfl (fun h => ?_) (fun h => ?_))
    | refine at_ret ?_
    | refine at_exit ?_
    | refine bk_hit ?_
    | refine bk_miss rfl ?_
    | refine ret_eq rfl ?_
  · rfl
  rename_i x1 n1 hn10 hn11 x2
  generalize hA : n1 * 4000 - 500000 = A
  generalize hB : n - 128 = B
  have hAb : -500000 ≤ A ∧ A ≤ 520000 := by omega
  have hBb : -128 ≤ B ∧ B ≤ 127 := by omega
  clear hA hB hn10 hn11 hn0 hn1
  have hM : -66560000 ≤ A * B ∧ A * B ≤ 66560000 := by
    have h1 : (A * B).natAbs = A.natAbs * B.natAbs := Int.natAbs_mul A B
    have h2 : A.natAbs * B.natAbs ≤ 520000 * 128 := Nat.mul_le_mul (by omega) (by omega)
    omega
  have c0 := prim_fc 0 A B (num3 (A + B)) (by omega) (by omega) (by omega) (by simp [numbers, inside, num3]; omega)
  have c1 := prim_fc 0 B A (num3 (A + B)) (by omega) (by omega) (by omega) (by simp [numbers, inside, num3, Int.add_comm]; omega)
  have c2 := prim_fc 1 (A + B) B (num3 A) (by omega) (by omega) (by omega) (by simp [numbers, inside, num3]; omega)
  have c3 := prim_fc 2 A B (num3 (A * B)) (by omega) (by omega) (by omega) (by simp [numbers, inside, num3]; omega)
  have c4 := prim_fc 2 B A (num3 (A * B)) (by omega) (by omega) (by omega) (by simp [numbers, inside, num3, Int.mul_comm]; omega)
  have hLGE : ∃ L G E : Int, (boolVal (decide (A < B)) = ⟨2, L, []⟩ ∧ boolVal (decide (B < A)) = ⟨2, G, []⟩ ∧ boolVal (decide (A = B)) = ⟨2, E, []⟩) ∧ L + G + E = 1 ∧ (0 ≤ L ∧ L ≤ 1) ∧ (0 ≤ G ∧ G ≤ 1) := by
    refine ⟨bif decide (A < B) then 1 else 0, bif decide (B < A) then 1 else 0, bif decide (A = B) then 1 else 0, ⟨rfl, rfl, rfl⟩, ?_⟩
    rcases Int.lt_trichotomy A B with h | h | h
    · rw [decide_eq_true h, decide_eq_false (by omega : ¬ B < A), decide_eq_false (by omega : ¬ A = B)]; decide
    · rw [decide_eq_false (by omega : ¬ A < B), decide_eq_false (by omega : ¬ B < A), decide_eq_true h]; decide
    · rw [decide_eq_false (by omega : ¬ A < B), decide_eq_true (by omega : B < A), decide_eq_false (by omega : ¬ A = B)]; decide
  obtain ⟨L, G, E, ⟨hL, hG, hE⟩, hsum, hL1, hG1⟩ := hLGE
  have c5 : FC Try.prog 13 [.int .i64 4, .psl 0 3 [(num3 A).enc, (num3 B).enc], .nilsl] [] 3 (fun x _ => x = .tup [.agg [.int .i64 2, .int .i64 L, .str []], .str []]) := prim_fc 4 A B ⟨2, L, []⟩ (by omega) (by omega) (by omega) (by simp [numbers, hL])
  have c6 : FC Try.prog 13 [.int .i64 4, .psl 0 3 [(num3 B).enc, (num3 A).enc], .nilsl] [] 3 (fun x _ => x = .tup [.agg [.int .i64 2, .int .i64 G, .str []], .str []]) := prim_fc 4 B A ⟨2, G, []⟩ (by omega) (by omega) (by omega) (by simp [numbers, hG])
  have c7 : FC Try.prog 13 [.int .i64 3, .psl 0 3 [(num3 A).enc, (num3 B).enc], .nilsl] [] 3 (fun x _ => x = .tup [.agg [.int .i64 2, .int .i64 E, .str []], .str []]) := prim_fc 3 A B ⟨2, E, []⟩ (by omega) (by omega) (by omega) (by simp [numbers, hE])
  clear hL hG hE
  repeat' first
    | refine ops_freeze 36 rfl rfl rfl ?_
    | refine ops_freeze 43 rfl rfl rfl ?_
    | refine ops_freeze 50 rfl rfl rfl ?_
    | refine ops_freeze 57 rfl rfl rfl ?_
    | refine ops_freeze 64 rfl rfl rfl ?_
    | refine ops_freeze 71 rfl rfl rfl ?_
    | refine ops_freeze 78 rfl rfl rfl ?_
    | refine ops_freeze 85 rfl rfl rfl ?_
    | refine at_seq ?_
    | refine at_region ?_
    | refine aops_nil ?_
    | refine at_skip ?_
    | refine at_block ?_
    | (refine isBin ?_
       first
       | refine sv rfl (ov_vsame (v := num3 (A)) veq25 rfl rfl) rfl ?_
       | refine sv rfl (ov_vsame (v := num3 (A + B)) veq25 rfl rfl) rfl ?_
       | refine sv rfl (ov_vsame (v := num3 (A * B)) veq25 rfl rfl) rfl ?_)
    | refine sxs tabOK rfl ?_
    | (refine isOps ?_
       first
       | refine s_slit tabOK rfl rfl rfl rfl rfl rfl rfl ?_
       | refine call_eq c0 rfl rfl rfl rfl ?_
       | refine call_eq c1 rfl rfl rfl rfl ?_
       | refine call_eq c2 rfl rfl rfl rfl ?_
       | refine call_eq c3 rfl rfl rfl rfl ?_
       | refine call_eq c4 rfl rfl rfl rfl ?_
       | refine call_eq c5 rfl rfl rfl rfl ?_
       | refine call_eq c6 rfl rfl rfl rfl ?_
       | refine call_eq c7 rfl rfl rfl rfl ?_
       | refine s_mul tabOK rfl rfl rfl (by omega) rfl ?_
       | (refine isLen ?_; refine sv rfl (ov_mlen tabOK rfl rfl rfl) rfl ?_)
       | (refine isBin ?_
          first
          | refine s_add tabOK rfl rfl rfl (by omega) rfl ?_
          | refine s_sub tabOK rfl rfl rfl (by omega) rfl ?_)
       | refine sx tabOK rfl ?_
       | (refine isGuard ?_
          first
          | refine s_splitT rfl rfl rfl (fun h => ?_) (fun h => ?_)
          | refine s_splitF rfl rfl rfl (fun h => ?_) (fun h => ?_)
          | refine s_splitTn rfl rfl rfl (fun h => ?_) (fun h => ?_)
          | refine s_splitFn rfl rfl rfl (fun h => ?_) (fun h => ?_)
          | refine s_split rfl rfl rfl (fun h => ?_) (fun h => ?_)))
    | (refine isCond ?_
       first
       | refine at_true rfl ?_
       | refine at_false rfl ?_
       | refine at_iftd rfl (fun h => ?_) (fun h => ?_)
       | refine at_iftn rfl (fun h => ?_) (fun h => ?_)
       | refine at_ift rfl (fun h => ?_) (fun h => ?_)
       | refine at_ifd rfl (fun h => ?_) (fun h => ?_)
       | refine at_ifn rfl (fun h => ?_) (fun h => ?_)
       | refine at_cond rfl (fun h => ?_) (fun h => ?_))
    | refine at_ret ?_
    | refine at_exit ?_
    | refine bk_hit ?_
    | refine bk_miss rfl ?_
    | refine ret_eq rfl ?_
  all_goals first | (exfalso; omega) | (exact congrArg V.bool (decide_eq_true (by omega))) | (exfalso; exact absurd rfl h)

end Go.Proofs.Ytiecdekmiabmkaa
