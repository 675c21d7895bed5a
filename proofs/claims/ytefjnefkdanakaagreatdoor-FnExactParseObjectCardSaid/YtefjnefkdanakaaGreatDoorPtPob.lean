
import Derived.Test.YtefjnefkdanakaaGreatDoorLibT
set_option linter.unusedVariables false
set_option linter.unusedSimpArgs false
namespace Go.Abs
theorem zB (a : LL) (hn : a.length ≤ 9223372036854775807) (hx : ∀ x ∈ a, x.length ≤ 9223372036854775807) : ∃ r, eY a 1048576 = some r ∧ (0 ≤ r → a.length ≤ 1048576 ∧ ∀ x ∈ a, x.length ≤ 1048576) := by
 unfold eY;rw [j5 (show -9223372036854775808 ≤ (1048576 : Int) - (a.length : Int) ∧ (1048576 : Int) - (a.length : Int) ≤ 9223372036854775807 by omega)];by_cases h : (1048576 : Int) - (a.length : Int) < 0
 ·rw [if_pos h];exact ⟨_, rfl, fun h => by omega⟩
 rw [if_neg h];have := iY (L := gF a) (fun r => 0 ≤ r → a.length ≤ 1048576 ∧ ∀ x ∈ a, x.length ≤ 1048576) (fun v => (0 ≤ v.2 ∧ v.2 ≤ a.length) ∧ (0 ≤ v.1 ∧ v.1 ≤ 1048576) ∧ ∀ j, (hj : j < a.length) → (j : Int) < v.2 → a[j].length ≤ 1048576) (fun v => a.length - v.2.toNat) (fun go v hv hgo => ?_) ((1048576 : Int) - (a.length : Int), 0) ⟨⟨by show (0 : Int) ≤ 0; omega, by show (0 : Int) ≤ _; omega⟩, ⟨by show (0 : Int) ≤ _ - _; omega, by show (_ : Int) - _ ≤ _; omega⟩, fun j hj h => by have : (j : Int) < 0 := h; omega⟩ (by show a.length - 0 < _; omega)
 ·exact this
 ·obtain ⟨left, j⟩ := v;obtain ⟨⟨h1, h2⟩, ⟨h3, h4⟩, h5⟩ := hv;simp only at h1 h2 h3 h4 h5;obtain ⟨i, rfl⟩ := Int.eq_ofNat_of_zero_le h1;simp only [Int.ofNat_eq_natCast] at *;show ∃ r, U3 a go left (i : Int) = some r ∧ _;unfold U3;by_cases hi : i < a.length
  ·have hxi := hx a[i] (List.getElem_mem hi);rw [if_pos (by omega), o9 hi, f7, j5 (show -9223372036854775808 ≤ left - (a[i].length : Int) ∧ left - (a[i].length : Int) ≤ 9223372036854775807 by omega)];by_cases hl : left - (a[i].length : Int) < 0
   ·rw [if_pos hl]; exact ⟨_, rfl, fun h => by omega⟩
   ·rw [if_neg hl, j5 (show -9223372036854775808 ≤ (i : Int) + 1 ∧ (i : Int) + 1 ≤ 9223372036854775807 by omega)];refine hgo (left - (a[i].length : Int), (i : Int) + 1) ⟨⟨by show (0 : Int) ≤ (i : Int) + 1; omega, by show (i : Int) + 1 ≤ _; omega⟩, ⟨by show (0 : Int) ≤ _ - _; omega, by show left - (a[i].length : Int) ≤ _; omega⟩, fun m hm hlt => ?_⟩ (by show a.length - ((i : Int) + 1).toNat < a.length - (i : Int).toNat; omega);have hlt' : (m : Int) < (i : Int) + 1 := hlt;by_cases e : m = i
    ·subst e; omega
    ·exact h5 m hm (by omega)
  ·rw [if_neg (by omega)];refine ⟨_, rfl, fun _ => ⟨by omega, fun x hx => ?_⟩⟩;obtain ⟨k, hk, rfl⟩ := List.getElem_of_mem hx;exact h5 k hk (by omega)
theorem toStringS_eq (a : LL) (hn : a.length ≤ 1048576) : N1 a = some a := by
 unfold N1;exact toS_eq' (L := bF a) _ a 16 (by omega) hn (fun go i out => rfl)
end Go.Abs

namespace Go.Abs
theorem hIntS_eq (xs : LI) (k : Int) (hn : xs.length ≤ 130000000000) (h0 : 0 ≤ k) (h1 : k + 6 * (xs.length : Int) ≤ 1000000000000) : Z3 (mAll mI k xs).2 k = some (mAll mI k xs).1 := by
 unfold Z3;have hal : (mAll mI k xs).2.length = xs.length := V2 _ _ _;refine mO (L := jZ (mAll mI k xs).2) (fun _ => 0) (fun _ => True) 1000000000000 (mAll mI k xs).2 (fun k x => mI_le k x) (fun go i k1 hi x hx hS hk hB => ?_) (fun go k1 => ?_) xs (fun x hx => trivial) hn k h0 (by rw [wts_0]; exact h1) rfl
 ·show M9 (mAll mI k xs).2 go k1 (i : Int) = _;unfold M9;have hx : (mAll mI k xs).2[i] = k1 := hx;rw [if_pos (by omega), o9 hi, f7, if_pos hx, j5 (by omega), j5 (by omega)];rfl
 ·show M9 (mAll mI k xs).2 go k1 _ = _;unfold M9;rw [if_neg (by omega)]
theorem mImage_k (m : PImage) (k : Int) (hw : wM m ≤ 130000000000) (h0 : 0 ≤ k) (h1 : k ≤ 100000000) : eW m k = some (mAll mC k m.codes) ∧ ∀ n, aZ (PImage.mk (mAll mC k m.codes).2 n) k = some (mAll mC k m.codes).1 := by
 have hwm : wM m = wts wC m.codes := rfl;have hle := oG mC_le m.codes k;have hl : (mAll mC k m.codes).2.length = m.codes.length := V2 _ _ _;refine ⟨?_, fun n => ?_⟩
 ·unfold eW;rw [mCodeS_eq m.codes k (by omega) (by omega) (by omega), f7];exact j5 hl
 ·unfold aZ;rw [hCodeS_eq m.codes k (by omega) (by omega) (by omega), f7, if_neg (by omega)]
theorem mObject_all (o : PObj) (hs : o.small) (hw : wM o.image ≤ 130000000000) : ∃ k a b c, bZ o 1 = some (k, a, b, c) ∧ a.length = o.defines.length ∧ b.length = o.uses.length ∧ c.length = o.image.codes.length ∧ 0 ≤ k ∧ Z4 (PObj.mk o.name a b (PImage.mk c o.image.main)) 1 = some k := by
 have l1 := hs.2.1;have l2 := hs.2.2.1;have e1 := oG mI_le o.defines 1;rw [wts_0] at e1;generalize hk1 : (mAll mI 1 o.defines).1 = k1 at e1;have e2 := oG mI_le o.uses k1;rw [wts_0] at e2;generalize hk2 : (mAll mI k1 o.uses).1 = k2 at e2;have e3 := oG mC_le o.image.codes k2;have f1 : (mAll mI 1 o.defines).2.length = o.defines.length := V2 _ _ _;have f2 : (mAll mI k1 o.uses).2.length = o.uses.length := V2 _ _ _;have f3 : (mAll mC k2 o.image.codes).2.length = o.image.codes.length := V2 _ _ _;obtain ⟨g1, g2⟩ := mImage_k o.image k2 hw (by omega) (by omega);refine ⟨(mAll mC k2 o.image.codes).1, _, _, _, ?_, f1, f2, f3, ?_, ?_⟩
 ·unfold bZ;rw [wN _ _ (by omega) (by omega) (by omega), f7, j5 f1, hk1, wN _ _ (by omega) (by omega) (by omega), f7, j5 f2, hk2, g1, f7, j5 f3]
 ·omega
 ·unfold Z4;show bnd (Z3 (mAll mI 1 o.defines).2 1) _ = _;rw [hIntS_eq _ _ (by omega) (by omega) (by omega), f7, hk1, if_neg (by omega)];show bnd (Z3 (mAll mI k1 o.uses).2 k1) _ = _;rw [hIntS_eq _ _ (by omega) (by omega) (by omega), f7, hk2, if_neg (by omega)];show bnd (aZ (PImage.mk (mAll mC k2 o.image.codes).2 o.image.main) k2) _ = _;rw [g2, f7, if_neg (by omega)]
theorem fX (ls : LL) (h : ls.length ≤ 9223372036854775807 ∧ ∀ x ∈ ls, x.length ≤ 9223372036854775807) : N6 ls = some true := by
 unfold N6;obtain ⟨n, z1, z2⟩ := zB ls h.1 h.2;rw [z1, f7];by_cases hz : n < 0
 ·rw [if_pos hz]
 obtain ⟨hl, hs⟩ := z2 (by omega);obtain ⟨r, e1, e2, e3, e4⟩ := ParseObject_eq ls hs hl;obtain ⟨a', m1, m2, m3⟩ := tU ls hl;obtain ⟨k, a, b, c, n1, n2, n3, n4, n5, n6⟩ := mObject_all r.1 e3 e4;rw [if_neg hz];simp only [toStringS_eq ls hl, f7, e1, e2, eqObject_eq r.1 e3, if_true, yK ls hl, m1];rw [j5 m2, if_neg (by omega)];simp only [n1, f7];rw [j5 n2, j5 n3, j5 n4];simp only [n6, f7];rw [if_neg (by omega)];simp only [if_true];rw [if_neg (by omega)]
end Go.Abs
