
import Derived.Test.YtefjnefkdanakaaGreatDoorLibT
set_option linter.unusedVariables false
set_option linter.unusedSimpArgs false
namespace Go.Abs
theorem uY (a : LL) (hn : a.length ≤ 9223372036854775807) (hx : ∀ x ∈ a, x.length ≤ 9223372036854775807) : ∃ r, dF a 1048576 = some r ∧ (0 ≤ r → a.length ≤ 1048576 ∧ ∀ x ∈ a, x.length ≤ 1048576) := by
 unfold dF
 rw [i6 (show -9223372036854775808 ≤ (1048576 : Int) - (a.length : Int) ∧ (1048576 : Int) - (a.length : Int) ≤ 9223372036854775807 by omega)]
 by_cases h : (1048576 : Int) - (a.length : Int) < 0
 ·rw [if_pos h]
  exact ⟨_, rfl, fun h => by omega⟩
 rw [if_neg h]
 have := dK (L := eN a) (fun r => 0 ≤ r → a.length ≤ 1048576 ∧ ∀ x ∈ a, x.length ≤ 1048576) (fun v => (0 ≤ v.2 ∧ v.2 ≤ a.length) ∧ (0 ≤ v.1 ∧ v.1 ≤ 1048576) ∧ ∀ j, (hj : j < a.length) → (j : Int) < v.2 → a[j].length ≤ 1048576) (fun v => a.length - v.2.toNat) (fun go v hv hgo => ?_) ((1048576 : Int) - (a.length : Int), 0) ⟨⟨by show (0 : Int) ≤ 0; omega, by show (0 : Int) ≤ _; omega⟩, ⟨by show (0 : Int) ≤ _ - _; omega, by show (_ : Int) - _ ≤ _; omega⟩, fun j hj h => by have : (j : Int) < 0 := h; omega⟩ (by show a.length - 0 < _; omega)
 ·exact this
 ·obtain ⟨left, j⟩ := v
  obtain ⟨⟨h1, h2⟩, ⟨h3, h4⟩, h5⟩ := hv
  simp only at h1 h2 h3 h4 h5
  obtain ⟨i, rfl⟩ := Int.eq_ofNat_of_zero_le h1
  simp only [Int.ofNat_eq_natCast] at *
  show ∃ r, Q5 a go left (i : Int) = some r ∧ _
  unfold Q5
  by_cases hi : i < a.length
  ·have hxi := hx a[i] (List.getElem_mem hi)
   rw [if_pos (by omega), m7 hi, f6, i6 (show -9223372036854775808 ≤ left - (a[i].length : Int) ∧ left - (a[i].length : Int) ≤ 9223372036854775807 by omega)]
   by_cases hl : left - (a[i].length : Int) < 0
   ·rw [if_pos hl]; exact ⟨_, rfl, fun h => by omega⟩
   ·rw [if_neg hl, i6 (show -9223372036854775808 ≤ (i : Int) + 1 ∧ (i : Int) + 1 ≤ 9223372036854775807 by omega)]
    refine hgo (left - (a[i].length : Int), (i : Int) + 1) ⟨⟨by show (0 : Int) ≤ (i : Int) + 1; omega, by show (i : Int) + 1 ≤ _; omega⟩, ⟨by show (0 : Int) ≤ _ - _; omega, by show left - (a[i].length : Int) ≤ _; omega⟩, fun m hm hlt => ?_⟩ (by show a.length - ((i : Int) + 1).toNat < a.length - (i : Int).toNat; omega)
    have hlt' : (m : Int) < (i : Int) + 1 := hlt
    by_cases e : m = i
    ·subst e; omega
    ·exact h5 m hm (by omega)
  ·rw [if_neg (by omega)]
   refine ⟨_, rfl, fun _ => ⟨by omega, fun x hx => ?_⟩⟩
   obtain ⟨k, hk, rfl⟩ := List.getElem_of_mem hx
   exact h5 k hk (by omega)
theorem toStringS_eq (a : LL) (hn : a.length ≤ 1048576) : J5 a = some a := by
 unfold J5
 exact toS_eq' (L := Z5 a) _ a 16 (by omega) hn (fun go i out => rfl)
theorem fI (ls : LL) (h : ls.length ≤ 9223372036854775807 ∧ ∀ x ∈ ls, x.length ≤ 9223372036854775807) : N7 ls = some true := by
 unfold N7
 obtain ⟨n, z1, z2⟩ := uY ls h.1 h.2
 rw [z1, f6]
 by_cases hz : n < 0
 ·rw [if_pos hz]
 obtain ⟨hl, hs⟩ := z2 (by omega)
 obtain ⟨r, e1, e2, e3, e4⟩ := ParseImage_eq ls hs hl
 obtain ⟨a', m1, m2, m3⟩ := qG ls hl
 obtain ⟨n1, n2, n3⟩ := mImage_eq r.1 e4
 have n4 := hImage_eq r.1 r.1.main e4
 rw [if_neg hz]
 simp only [toStringS_eq ls hl, f6, e1, e2, eqImage_eq r.1 e3, if_true, uE ls hl, m1]
 rw [i6 m2, if_neg (by omega)]
 simp only [n1, f6]
 rw [i6 n2]
 simp only [n4, f6]
 rw [if_neg (by omega)]
 simp only [if_true]
 rw [if_neg (by omega)]
end Go.Abs
