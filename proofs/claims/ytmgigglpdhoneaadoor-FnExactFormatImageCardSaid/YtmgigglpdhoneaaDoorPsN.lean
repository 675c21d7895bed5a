/-
  Plain: numbers as texts.
-/
import Derived.Test.YtmgigglpdhoneaaDoorPsM
import Derived.Test.YtmgigglpdhoneaaDoorGpH
set_option linter.unusedVariables false
set_option linter.unusedSimpArgs false
namespace Go.Abs
open Go.Lib (decDigits itoa nDigits)

/-! ### Numbers -/
theorem nDig_le : ∀ (k u : Nat), u < 10 ^ (k + 1) → nDigits u ≤ k + 1
  | 0, u, h => by rw [Go.Lib.nDigits_small (by simpa using h)]; omega
  | k + 1, u, h => by
    by_cases hu : u < 10
    · rw [Go.Lib.nDigits_small hu]; omega
    · rw [Go.Lib.nDigits_big hu]
      have := nDig_le k (u / 10) (by rw [Nat.pow_succ] at h; omega)
      omega
theorem dec_len (u : Nat) (h : u ≤ 999999999) : (decDigits u).length ≤ 9 := by
  rw [Go.Lib.decDigits_eq, List.length_map, List.length_range]
  exact nDig_le 8 u (by show u < 10 ^ 9; omega)
theorem dec_small {u : Nat} (h : u < 10) : decDigits u = [UInt8.ofNat (48 + u)] := by rw [decDigits, dif_pos h]
theorem dec_big {u : Nat} (h : ¬ u < 10) : decDigits u = decDigits (u / 10) ++ [UInt8.ofNat (48 + u % 10)] := by rw [decDigits, dif_neg h]
theorem s_FormatNumber_eq (n : Int) (h : -999999999 ≤ n ∧ n ≤ 999999999) : s_FormatNumber n = some (itoa n) := by
  unfold s_FormatNumber
  by_cases h0 : n = 0
  · rw [if_pos h0, h0]
    unfold itoa
    rw [if_neg (by omega), show (0 : Int).toNat = 0 from rfl, dec_small (by omega)]
    rfl
  rw [if_neg h0]
  have hT := dec_len n.natAbs (by omega)
  have key := itr_exLF (L := s_FormatNumber_L1 n) (fun r => r = itoa n) (fun v => ((v.2 = 0 ∧ v.1 = decDigits n.natAbs) ∨ (v.2 ≠ 0 ∧ decDigits v.2.natAbs ++ v.1 = decDigits n.natAbs)) ∧ ((0 ≤ n ∧ 0 ≤ v.2 ∧ v.2 ≤ n) ∨ (n < 0 ∧ v.2 ≤ 0 ∧ n ≤ v.2))) (fun v => v.2.natAbs) (fun go v hv hgo => ?_) ([], n) ⟨.inr ⟨h0, by simp⟩, by show (0 ≤ n ∧ 0 ≤ n ∧ n ≤ n) ∨ (n < 0 ∧ n ≤ 0 ∧ n ≤ n); omega⟩ (by show n.natAbs < _; omega)
  · obtain ⟨r, h1, h2⟩ := key; rw [h1, h2]
  · obtain ⟨out, x⟩ := v
    obtain ⟨h1, h2⟩ := hv
    simp only at h1 h2
    show ∃ r, s_FormatNumber_L1b n go out x = some r ∧ _
    unfold s_FormatNumber_L1b
    by_cases hx : x = 0
    · have ho : out = decDigits n.natAbs := by
        rcases h1 with h1 | h1
        · exact h1.2
        · exact absurd hx h1.1
      rw [if_pos hx]
      by_cases hn : n < 0
      · rw [if_pos hn, chk_t (by rw [ho]; simp; omega)]
        refine ⟨_, rfl, ?_⟩
        unfold itoa
        rw [if_pos hn, ho]; rfl
      · rw [if_neg hn]
        refine ⟨_, rfl, ?_⟩
        unfold itoa
        rw [if_neg hn, ho, show n.natAbs = n.toNat by omega]
    · have ho : decDigits x.natAbs ++ out = decDigits n.natAbs := by
        rcases h1 with h1 | h1
        · exact absurd h1.1 hx
        · exact h1.2
      have hol : out.length ≤ 9 := by
        have := congrArg List.length ho
        rw [List.length_append] at this; omega
      have hx2 : -999999999 ≤ x ∧ x ≤ 999999999 := by omega
      -- the last figure, and the rest
      obtain ⟨dg, q, e1, e2, e3, e4⟩ : ∃ dg q : Int, (Int.tmod x 10 = dg ∨ Int.tmod x 10 = -dg) ∧ dg = ((x.natAbs % 10 : Nat) : Int) ∧ Int.tdiv x 10 = q ∧ (q.natAbs = x.natAbs / 10 ∧ ((0 ≤ n ∧ 0 ≤ q ∧ q ≤ n ∧ Int.tmod x 10 = dg) ∨ (n < 0 ∧ q ≤ 0 ∧ n ≤ q ∧ Int.tmod x 10 = -dg))) := by
        rcases h2 with ⟨a1, a2, a3⟩ | ⟨a1, a2, a3⟩
        · refine ⟨x % 10, x / 10, .inl (Int.tmod_eq_emod_of_nonneg a2), by omega, Int.tdiv_eq_ediv_of_nonneg a2, by omega, .inl ⟨a1, by omega, by omega, Int.tmod_eq_emod_of_nonneg a2⟩⟩
        · have t1 : Int.tmod x 10 = -((-x) % 10) := by rw [← Int.tmod_eq_emod_of_nonneg (by omega : 0 ≤ -x), Int.neg_tmod, Int.neg_neg]
          have t2 : Int.tdiv x 10 = -((-x) / 10) := by rw [← Int.tdiv_eq_ediv_of_nonneg (by omega : 0 ≤ -x), Int.neg_tdiv, Int.neg_neg]
          exact ⟨(-x) % 10, -((-x) / 10), .inr t1, by omega, t2, by omega, .inr ⟨a1, by omega, by omega, t1⟩⟩
      have hd : 0 ≤ dg ∧ dg ≤ 9 := by omega
      have hJ : ∃ r, s_FormatNumber_J2 out x go dg = some r ∧ r = itoa n := by
        unfold s_FormatNumber_J2
        rw [chk_t (show -9223372036854775808 ≤ 48 + dg ∧ 48 + dg ≤ 9223372036854775807 by omega), chk_t (by omega), chk_t (by simp; omega), chk_t (show (-9223372036854775808 ≤ x ∧ x ≤ 9223372036854775807) ∧ (0 : Int) < 10 by omega), e3]
        refine hgo (_, q) ⟨?_, by show (0 ≤ n ∧ 0 ≤ q ∧ q ≤ n) ∨ (n < 0 ∧ q ≤ 0 ∧ n ≤ q); omega⟩ (by show q.natAbs < x.natAbs; omega)
        show (q = 0 ∧ _) ∨ (q ≠ 0 ∧ _)
        have hdn : (48 + dg).toNat = 48 + x.natAbs % 10 := by omega
        rw [hdn]
        by_cases hs : x.natAbs < 10
        · refine .inl ⟨by omega, ?_⟩
          rw [← ho, dec_small hs, Nat.mod_eq_of_lt hs]
        · refine .inr ⟨by omega, ?_⟩
          rw [← ho, dec_big hs, e4.1, List.append_assoc]
      rw [if_neg hx, chk_t (show (-9223372036854775808 ≤ x ∧ x ≤ 9223372036854775807) ∧ (0 : Int) < 10 by omega)]
      by_cases hneg : Int.tmod x 10 < 0
      · have e : -(Int.tmod x 10) = dg := by omega
        rw [if_pos hneg, e, chk_t (show -9223372036854775808 ≤ dg ∧ dg ≤ 9223372036854775807 by omega)]
        exact hJ
      · have e : Int.tmod x 10 = dg := by omega
        rw [if_neg hneg, e]
        exact hJ
theorem i_FormatNumber_eq (n : Int) (h : -999999999 ≤ n ∧ n ≤ 999999999) : i_FormatNumber n = some (itoa n) := by
  unfold i_FormatNumber x_Itoa
  rw [chk_t (show -9223372036854775808 ≤ n ∧ n ≤ 9223372036854775807 by omega)]; rfl
theorem itoa_len (n : Int) (h : -999999999 ≤ n ∧ n ≤ 999999999) : (itoa n).length ≤ 10 := by
  unfold itoa
  split
  · have := dec_len n.natAbs (by omega); simp; omega
  · have := dec_len n.toNat (by omega); omega
end Go.Abs
