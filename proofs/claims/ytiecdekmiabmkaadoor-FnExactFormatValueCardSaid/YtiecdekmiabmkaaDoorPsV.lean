/-
  Plain: values and pairs.
-/
import Derived.Test.YtiecdekmiabmkaaDoorPsM
set_option linter.unusedVariables false
set_option linter.unusedSimpArgs false
namespace Go.Abs
open PDat

theorem prims14 : ∃ l, i_PrimitiveNames = some l ∧ (l.length : Int) = 14 := prims_some
theorem i_isValue_eq (v : PVal) (n : Int) (h : SM v.text) : i_isValue v n = some (isVal n v) := by
  obtain ⟨l, hl, hn⟩ := prims14
  unfold i_isValue isVal
  rw [i_IsSymbol_eq _ h, i_stringText_eq _ h, hl]
  simp only [bnd_eq, hn]
  by_cases k0 : v.kind = 0
  · rw [if_pos k0, if_pos (show v.kind = 0 ∨ v.kind = 1 from .inl k0)]
    by_cases e : v.number = 0 <;> simp [e]
  by_cases k1 : v.kind = 1
  · rw [if_neg k0, if_pos k1, if_pos (show v.kind = 0 ∨ v.kind = 1 from .inr k1)]
    by_cases e : v.number = 0 <;> simp [e]
  rw [if_neg k0, if_neg k1, if_neg (show ¬ (v.kind = 0 ∨ v.kind = 1) from fun h => h.elim k0 k1)]
  by_cases k2 : v.kind = 2
  · rw [if_pos k2, if_pos k2]
    unfold inside
    by_cases e : v.number = 0
    · simp [e]
    · rw [if_neg e]
      by_cases e2 : v.number = 1
      · simp [e2]
      · rw [if_neg e2]
        have : (decide (0 ≤ v.number) && decide (v.number ≤ 1)) = false := by
          rw [Bool.and_eq_false_iff, decide_eq_false_iff_not, decide_eq_false_iff_not]; omega
        simp [this]
  rw [if_neg k2, if_neg k2]
  have rng : ∀ a b : Int, (if v.number ≥ a then (if v.number ≤ b then some (decide (v.text = [])) else some false) else some false) = some (inside v.number a b && decide (v.text = [])) := fun a b => by
    unfold inside
    by_cases e : v.number ≥ a
    · rw [if_pos e, decide_eq_true e]
      by_cases e2 : v.number ≤ b
      · rw [if_pos e2, decide_eq_true e2]; simp
      · rw [if_neg e2, decide_eq_false e2]; simp
    · rw [if_neg e, decide_eq_false e]; simp
  have rng' : ∀ a b : Int, (if v.number ≥ a then (if v.number < b then some (decide (v.text = [])) else some false) else some false) = some (inside v.number a (b - 1) && decide (v.text = [])) := fun a b => by
    rw [← rng]
    by_cases e : v.number ≥ a
    · rw [if_pos e, if_pos e]
      by_cases e2 : v.number < b
      · rw [if_pos e2, if_pos (by omega)]
      · rw [if_neg e2, if_neg (by omega)]
    · rw [if_neg e, if_neg e]
  by_cases k3 : v.kind = 3
  · rw [if_pos k3, if_pos k3]; exact rng _ _
  rw [if_neg k3, if_neg k3]
  by_cases k4 : v.kind = 4
  · rw [if_pos k4, if_pos k4]
    by_cases e : v.number = 0 <;> simp [e]
  rw [if_neg k4, if_neg k4]
  by_cases k5 : v.kind = 5
  · rw [if_pos k5, if_pos k5]
    by_cases e : v.number = 0 <;> simp [e]
  rw [if_neg k5, if_neg k5]
  by_cases k6 : v.kind = 6
  · rw [if_pos k6, if_pos k6]; exact rng' _ _
  rw [if_neg k6, if_neg k6]
  by_cases k7 : v.kind = 7
  · rw [if_pos k7, if_pos k7]; exact rng' _ _
  rw [if_neg k7, if_neg k7]
  by_cases k8 : v.kind = 8
  · rw [if_pos k8, if_pos (show v.kind = 8 ∨ v.kind = 9 from .inl k8)]; exact rng _ _
  rw [if_neg k8]
  by_cases k9 : v.kind = 9
  · rw [if_pos k9, if_pos (show v.kind = 8 ∨ v.kind = 9 from .inr k9)]; exact rng _ _
  rw [if_neg k9, if_neg (show ¬ (v.kind = 8 ∨ v.kind = 9) from fun h => h.elim k8 k9)]
theorem s_l8Value_eq (v : PVal) (n : Int) (h : SM v.text) (hn : 0 ≤ n ∧ n ≤ 4611686018427387904) : s_l8Value v n = some (isVal n v) := by
  obtain ⟨l, hl, hln⟩ := prims14
  have hl' : s_PrimitiveNames = some l := by rw [s_prims, hl]
  unfold s_l8Value isVal
  rw [s_IsSymbol_eq _ h, s_l1String_eq _ h, hl']
  simp only [bnd_eq, hln, s_l1In_eq]
  have fin : ∀ b : Bool, (if b = true then some (decide (v.text = [])) else some false) = some (b && decide (v.text = [])) := fun b => by cases b <;> simp
  by_cases k0 : v.kind = 0
  · rw [if_pos k0, if_pos (show v.kind = 0 ∨ v.kind = 1 from .inl k0)]
    by_cases e : v.number = 0 <;> simp [e]
  by_cases k1 : v.kind = 1
  · rw [if_neg k0, if_pos k1, if_pos (show v.kind = 0 ∨ v.kind = 1 from .inr k1)]
    by_cases e : v.number = 0 <;> simp [e]
  rw [if_neg k0, if_neg k1, if_neg (show ¬ (v.kind = 0 ∨ v.kind = 1) from fun h => h.elim k0 k1)]
  by_cases k2 : v.kind = 2
  · rw [if_pos k2, if_pos k2]; exact fin _
  rw [if_neg k2, if_neg k2]
  by_cases k3 : v.kind = 3
  · rw [if_pos k3, if_pos k3]; exact fin _
  rw [if_neg k3, if_neg k3]
  by_cases k4 : v.kind = 4
  · rw [if_pos k4, if_pos k4]
    by_cases e : v.number = 0 <;> simp [e]
  rw [if_neg k4, if_neg k4]
  by_cases k5 : v.kind = 5
  · rw [if_pos k5, if_pos k5]
    by_cases e : v.number = 0 <;> simp [e]
  rw [if_neg k5, if_neg k5]
  by_cases k6 : v.kind = 6
  · rw [if_pos k6, if_pos k6, chk_t (by omega)]; exact fin _
  rw [if_neg k6, if_neg k6]
  by_cases k7 : v.kind = 7
  · rw [if_pos k7, if_pos k7, chk_t (by omega)]; exact fin _
  rw [if_neg k7, if_neg k7]
  by_cases k8 : v.kind = 8
  · rw [if_pos k8, if_pos (show v.kind = 8 ∨ v.kind = 9 from .inl k8)]; exact fin _
  rw [if_neg k8]
  by_cases k9 : v.kind = 9
  · rw [if_pos k9, if_pos (show v.kind = 8 ∨ v.kind = 9 from .inr k9)]; exact fin _
  rw [if_neg k9, if_neg (show ¬ (v.kind = 8 ∨ v.kind = 9) from fun h => h.elim k8 k9)]
theorem i_ArePairs_eq (ps : List PPair) (h : pairsSmall ps) : i_ArePairs ps = some (arePairs ps) := by
  unfold i_ArePairs arePairs
  have hl := h.1
  have hloop : itr (i_ArePairs_L1 ps) LF 0 = some (arePairsFrom 0 ps) := by
    rw [itr_idx (L := i_ArePairs_L1 ps) ps.length (fun i => some (arePairsFrom i (ps.drop i))) (by omega) (fun go i hi hgo => ?_) (fun go => ?_)]
    · rfl
    · show i_ArePairs_L1b ps go (i : Int) = _
      unfold i_ArePairs_L1b
      have hm := h.2 _ (List.getElem_mem hi)
      have h1 : SM ps[i].h.text := by have : ps[i].h.text.length ≤ 1048576 := hm.1; unfold SM; omega
      have h2 : SM ps[i].t.text := by have : ps[i].t.text.length ≤ 1048576 := hm.2; unfold SM; omega
      rw [if_pos (by omega), nth_lt hi, bnd_eq, i_isValue_eq _ _ h1, bnd_eq, i_isValue_eq _ _ h2, bnd_eq, chk_t (by omega), hgo, List.drop_eq_getElem_cons hi, arePairsFrom]
      cases isVal i ps[i].h <;> cases isVal i ps[i].t <;> simp
    · show i_ArePairs_L1b ps go (ps.length : Int) = _
      unfold i_ArePairs_L1b
      rw [if_neg (by omega), List.drop_length]; rfl
  rw [hloop]
  by_cases h2 : (ps.length : Int) > 2000
  · rw [if_pos h2, decide_eq_false (by omega)]; rfl
  · rw [if_neg h2, decide_eq_true (by omega)]; rfl
theorem s_ArePairs_eq (ps : List PPair) (h : pairsSmall ps) : s_ArePairs ps = some (arePairs ps) := by
  unfold s_ArePairs arePairs
  have hl := h.1
  rw [itr_idx (L := s_ArePairs_L1 ps) ps.length (fun i => some (decide ((ps.length : Int) ≤ 2000) && arePairsFrom i (ps.drop i))) (by omega) (fun go i hi hgo => ?_) (fun go => ?_)]
  · rfl
  · show s_ArePairs_L1b ps go (i : Int) = _
    unfold s_ArePairs_L1b
    have hm := h.2 _ (List.getElem_mem hi)
    have h1 : SM ps[i].h.text := by have : ps[i].h.text.length ≤ 1048576 := hm.1; unfold SM; omega
    have h2 : SM ps[i].t.text := by have : ps[i].t.text.length ≤ 1048576 := hm.2; unfold SM; omega
    rw [if_pos (by omega), nth_lt hi, bnd_eq, s_l8Value_eq _ _ h1 (by omega), bnd_eq, s_l8Value_eq _ _ h2 (by omega), bnd_eq, chk_t (by omega), hgo, List.drop_eq_getElem_cons hi, arePairsFrom]
    cases isVal i ps[i].h <;> cases isVal i ps[i].t <;> simp
  · show s_ArePairs_L1b ps go (ps.length : Int) = _
    unfold s_ArePairs_L1b
    rw [if_neg (by omega), List.drop_length]; simp [arePairsFrom]

/-! ### How many pairs a datum needs -/
theorem cnts_cons (d : PDat) (r : List PDat) : cnts (d :: r) = 1 + d.cnt + cnts r := by rw [cnts]
theorem s_l8Cells_eq : ∀ (n : Nat) (d : PDat), d.cnt < n → d.cnt ≤ 1048576 → s_l8Cells n d = some (d.cnt : Int)
  | 0, d, h, _ => by omega
  | n + 1, d, h, hs => by
    show s_l8Cells_b (s_l8Cells n) d = _
    unfold s_l8Cells_b
    have hc := cnt_eq d
    have hl := cnts_len d.items
    rw [itr_Aidx (L := s_l8Cells_L1 (s_l8Cells n) d) d.items.length (fun i a => 0 ≤ a ∧ a + (cnts (d.items.drop i) : Int) = (d.cnt : Int)) (fun _ _ => some (d.cnt : Int)) (by omega) (fun go i a hi hI hgo => ?_) (fun go a hI => ?_) ⟨by omega, by simp [hc]⟩]
    · show s_l8Cells_L1b (s_l8Cells n) d go a (i : Int) = _
      unfold s_l8Cells_L1b
      have hm := cnts_mem (List.getElem_mem hi)
      rw [List.drop_eq_getElem_cons hi, cnts_cons] at hI
      obtain ⟨hI0, hI1⟩ := hI
      rw [if_pos (by omega), nth_lt hi, bnd_eq, chk_t (by omega), s_l8Cells_eq n d.items[i] (by omega) (by omega), bnd_eq, chk_t (by omega), chk_t (by omega)]
      exact hgo _ ⟨by omega, by omega⟩
    · show s_l8Cells_L1b (s_l8Cells n) d go a (d.items.length : Int) = _
      unfold s_l8Cells_L1b
      rw [List.drop_length] at hI
      have : cnts [] = 0 := rfl
      rw [if_neg (by omega)]
      congr 1; omega
theorem i_itemsIn_eq : ∀ (n : Nat) (d : PDat), d.cnt < n → d.cnt ≤ 1048576 → i_itemsIn n d = some (d.cnt : Int)
  | 0, d, h, _ => by omega
  | n + 1, d, h, hs => by
    show i_itemsIn_b (i_itemsIn n) d = _
    unfold i_itemsIn_b
    have hc := cnt_eq d
    have hl := cnts_len d.items
    rw [itr_Aidx (L := i_itemsIn_L1 (i_itemsIn n) d) d.items.length (fun i a => 0 ≤ a ∧ a + (cnts (d.items.drop i) : Int) = (d.cnt : Int) + ((d.items.length : Int) - i)) (fun _ _ => some (d.cnt : Int)) (by omega) (fun go i a hi hI hgo => ?_) (fun go a hI => ?_) ⟨by omega, by simp [hc]; omega⟩]
    · show i_itemsIn_L1b (i_itemsIn n) d go a (i : Int) = _
      unfold i_itemsIn_L1b
      have hm := cnts_mem (List.getElem_mem hi)
      have hld := cnts_len (d.items.drop i)
      rw [List.length_drop] at hld
      rw [List.drop_eq_getElem_cons hi, cnts_cons] at hI hld
      obtain ⟨hI0, hI1⟩ := hI
      rw [if_pos (by omega), nth_lt hi, bnd_eq, i_itemsIn_eq n d.items[i] (by omega) (by omega), bnd_eq, chk_t (by omega), chk_t (by omega)]
      exact hgo _ ⟨by omega, by omega⟩
    · show i_itemsIn_L1b (i_itemsIn n) d go a (d.items.length : Int) = _
      unfold i_itemsIn_L1b
      rw [List.drop_length] at hI
      have : cnts [] = 0 := rfl
      rw [if_neg (by omega)]
      congr 1; omega

/-! ### The value of a datum -/
theorem i_valueOf_is : ∀ n, i_valueOf n = s_l8Quote n
  | 0 => rfl
  | n + 1 => by
    funext d ps
    show i_valueOf_b (i_valueOf n) d ps = s_l8Quote_b (s_l8Quote n) d ps
    rw [i_valueOf_is n]; rfl
theorem s_l8Quote_some : ∀ (n : Nat) (d : PDat) (ps : List PPair), d.cnt < n → ps.length + d.cnt ≤ 1048576 → ∃ r, s_l8Quote n d ps = some r ∧ r.2.length ≤ ps.length + d.cnt
  | 0, d, ps, h, _ => by omega
  | n + 1, d, ps, h, hs => by
    show ∃ r, s_l8Quote_b (s_l8Quote n) d ps = some r ∧ _
    unfold s_l8Quote_b
    have hc := cnt_eq d
    have hl := cnts_len d.items
    by_cases k1 : d.kind = 1
    · rw [if_pos k1]; exact ⟨_, rfl, by show ps.length ≤ _; omega⟩
    rw [if_neg k1]
    by_cases k2 : d.kind = 2
    · rw [if_pos k2]; exact ⟨_, rfl, by show ps.length ≤ _; omega⟩
    rw [if_neg k2]
    by_cases k3 : d.kind = 3
    · rw [if_pos k3]; exact ⟨_, rfl, by show ps.length ≤ _; omega⟩
    rw [if_neg k3]
    by_cases k4 : d.kind = 4
    · rw [if_pos k4]; exact ⟨_, rfl, by show ps.length ≤ _; omega⟩
    rw [if_neg k4, chk_t (by omega)]
    refine itr_exLF (L := s_l8Quote_L1 (s_l8Quote n) d) (fun r => r.2.length ≤ ps.length + d.cnt) (fun v => (-1 ≤ v.1 ∧ v.1 < d.items.length) ∧ v.2.1.length + cnts (d.items.take (v.1 + 1).toNat) ≤ ps.length + d.cnt) (fun v => (v.1 + 1).toNat) (fun go v hv hgo => ?_) _ ⟨⟨by show -1 ≤ (d.items.length : Int) - 1; omega, by show (d.items.length : Int) - 1 < _; omega⟩, ?_⟩ (by show ((d.items.length : Int) - 1 + 1).toNat < _; omega)
    · obtain ⟨i, qs, tail⟩ := v
      obtain ⟨⟨h1, h2⟩, h3⟩ := hv
      simp only at h1 h2 h3
      show ∃ r, s_l8Quote_L1b (s_l8Quote n) d go i qs tail = some r ∧ _
      unfold s_l8Quote_L1b
      by_cases hi : i ≥ 0
      · obtain ⟨j, rfl⟩ := Int.eq_ofNat_of_zero_le hi
        have hj : j < d.items.length := by have : (j : Int) < d.items.length := h2; omega
        have e1 : (((j : Int)) + 1).toNat = j + 1 := by omega
        have ht : cnts (d.items.take (j + 1)) = cnts (d.items.take j) + (1 + d.items[j].cnt) := by
          rw [← List.take_append_getElem hj]
          have : ∀ (a b : List PDat), cnts (a ++ b) = cnts a + cnts b := by
            intro a b
            induction a with
            | nil => simp [cnts]
            | cons x r ih => rw [List.cons_append, cnts_cons, cnts_cons, ih]; omega
          rw [this, cnts_cons]; simp [cnts]
        simp only [Int.ofNat_eq_natCast] at *
        rw [e1, ht] at h3
        have hm := cnts_mem (List.getElem_mem hj)
        obtain ⟨r, g1, g2⟩ := s_l8Quote_some n d.items[j] qs (by omega) (by omega)
        rw [if_pos (by omega), nth_lt hj, bnd_eq, g1, bnd_eq, chk_t (by simp; omega), chk_t (by simp; omega), chk_t (by omega)]
        refine hgo _ ⟨⟨by show -1 ≤ (j : Int) - 1; omega, by show (j : Int) - 1 < _; omega⟩, ?_⟩ (by show ((j : Int) - 1 + 1).toNat < ((j : Int) + 1).toNat; omega)
        show (r.2 ++ [_]).length + cnts (d.items.take ((j : Int) - 1 + 1).toNat) ≤ _
        have e2 : ((j : Int) - 1 + 1).toNat = j := by omega
        rw [e2, List.length_append, List.length_singleton]
        omega
      · rw [if_neg hi]
        exact ⟨_, rfl, by show qs.length ≤ _; omega⟩
    · show ps.length + cnts (d.items.take ((d.items.length : Int) - 1 + 1).toNat) ≤ _
      have e2 : ((d.items.length : Int) - 1 + 1).toNat = d.items.length := by omega
      rw [e2, List.take_length]; omega

/-! ### Pairs marked -/
def mt (k : Int) : List UInt8 := (w_markText k).getD []
theorem mt_eq (k : Int) (h : k ≤ 4611686018427387904) : w_markText k = some (mt k) := by
  obtain ⟨t, ht⟩ := markText_some k h
  unfold mt; rw [ht]; rfl
def mpair (k : Int) : PPair := PPair.mk (PVal.mk k (k + 1) (mt (k + 1 + 1))) (PVal.mk (k + 1 + 1 + 1) (k + 1 + 1 + 1 + 1) (mt (k + 1 + 1 + 1 + 1 + 1)))
theorem markPairS_some (xs : List PPair) (k0 : Int) (hn : xs.length ≤ 1048576) (h0 : 0 ≤ k0) (h1 : k0 ≤ 1000000000000) : ∃ a', w_markPairS xs k0 = some (k0 + 6 * (xs.length : Int), a') ∧ a'.length = xs.length ∧ ∀ i : Nat, i < xs.length → a'[i]? = some (mpair (k0 + 6 * (i : Int))) := by
  unfold w_markPairS
  have := itr_exLF (L := w_markPairS_L1) (fun r => r.1 = k0 + 6 * (xs.length : Int) ∧ r.2.length = xs.length ∧ ∀ i : Nat, i < xs.length → r.2[i]? = some (mpair (k0 + 6 * (i : Int)))) (fun v => (0 ≤ v.2.1 ∧ v.2.1 ≤ xs.length) ∧ v.1 = k0 + 6 * v.2.1 ∧ v.2.2.length = xs.length ∧ ∀ i : Nat, (i : Int) < v.2.1 → v.2.2[i]? = some (mpair (k0 + 6 * (i : Int)))) (fun v => xs.length - v.2.1.toNat) (fun go v hv hgo => ?_) (k0, 0, xs) ⟨⟨by show (0:Int) ≤ 0; omega, by show (0 : Int) ≤ _; omega⟩, by show k0 = k0 + 6 * 0; omega, rfl, fun i hi => by have : (i : Int) < 0 := hi; omega⟩ (by show xs.length - 0 < _; omega)
  · obtain ⟨r, e1, e2, e3, e4⟩ := this
    obtain ⟨r1, r2⟩ := r
    simp only at e2
    exact ⟨r2, by rw [e1, e2], e3, e4⟩
  · obtain ⟨k, j, a⟩ := v
    obtain ⟨⟨h1', h2⟩, h3, h4, h5⟩ := hv
    simp only at h1' h2 h3 h4 h5
    obtain ⟨i, rfl⟩ := Int.eq_ofNat_of_zero_le h1'
    simp only [Int.ofNat_eq_natCast] at *
    show ∃ r, w_markPairS_L1b go k (i : Int) a = some r ∧ _
    unfold w_markPairS_L1b
    by_cases hi : i < xs.length
    · have hia : i < a.length := by omega
      simp only [Int.toNat_natCast, List.set_set]
      rw [if_pos (by omega), nth_lt hia, bnd_eq, chk_t (by omega), nth_set hia, bnd_eq, chk_t (by omega), mt_eq _ (by omega), bnd_eq, nth_set hia, bnd_eq, chk_t (by omega), nth_set hia, bnd_eq, chk_t (by omega), nth_set hia, bnd_eq, chk_t (by omega), mt_eq _ (by omega), bnd_eq, nth_set hia, bnd_eq, chk_t (by omega), chk_t (by omega)]
      refine hgo _ ⟨⟨by show (0 : Int) ≤ (i : Int) + 1; omega, by show (i : Int) + 1 ≤ _; omega⟩, by show k + 1 + 1 + 1 + 1 + 1 + 1 = k0 + 6 * ((i : Int) + 1); omega, by simpa using h4, fun m hm => ?_⟩ (by show xs.length - ((i : Int) + 1).toNat < xs.length - (i : Int).toNat; omega)
      have hm' : (m : Int) < (i : Int) + 1 := hm
      by_cases e : i = m
      · subst e
        rw [List.getElem?_set_self (by omega), h3]; rfl
      · rw [List.getElem?_set_ne e]
        exact h5 m (by omega)
    · have : i = xs.length := by omega
      subst this
      rw [if_neg (by omega)]
      exact ⟨_, rfl, h3, h4, fun m hm => h5 m (by omega)⟩
theorem heldPairS_eq (a : List PPair) (hn : a.length ≤ 1048576) (h : ∀ i : Nat, i < a.length → a[i]? = some (mpair (1 + 6 * (i : Int)))) : w_heldPairS a 1 = some (1 + 6 * (a.length : Int)) := by
  unfold w_heldPairS
  have := itr_exLF (L := w_heldPairS_L1 a) (fun r => r = 1 + 6 * (a.length : Int)) (fun v => (0 ≤ v.2 ∧ v.2 ≤ a.length) ∧ v.1 = 1 + 6 * v.2) (fun v => a.length - v.2.toNat) (fun go v hv hgo => ?_) (1, 0) ⟨⟨by show (0:Int) ≤ 0; omega, by show (0 : Int) ≤ _; omega⟩, rfl⟩ (by show a.length - 0 < _; omega)
  · obtain ⟨r, h1, h2⟩ := this; rw [h1, h2]
  · obtain ⟨k, j⟩ := v
    obtain ⟨⟨h1, h2⟩, h3⟩ := hv
    simp only at h1 h2 h3
    obtain ⟨i, rfl⟩ := Int.eq_ofNat_of_zero_le h1
    simp only [Int.ofNat_eq_natCast] at *
    show ∃ r, w_heldPairS_L1b a go k (i : Int) = some r ∧ _
    unfold w_heldPairS_L1b
    by_cases hi : i < a.length
    · have hx : nth a (i : Int) = some (mpair k) := by rw [nth_nat, h i hi, h3]
      rw [if_pos (by omega), hx]
      simp only [bnd_eq, mpair, if_true]
      rw [chk_t (by omega), chk_t (by omega), mt_eq _ (by omega)]
      simp only [bnd_eq, if_true]
      rw [chk_t (by omega), chk_t (by omega), chk_t (by omega), mt_eq _ (by omega)]
      simp only [bnd_eq, if_true]
      rw [chk_t (by omega), chk_t (by omega)]
      exact hgo _ ⟨⟨by show (0 : Int) ≤ (i : Int) + 1; omega, by show (i : Int) + 1 ≤ _; omega⟩, by show k + 1 + 1 + 1 + 1 + 1 + 1 = 1 + 6 * ((i : Int) + 1); omega⟩ (by show a.length - ((i : Int) + 1).toNat < a.length - (i : Int).toNat; omega)
    · rw [if_neg (by omega)]
      exact ⟨_, rfl, by omega⟩

/-! ### The laws' helpers for pairs -/
def wV (v : PVal) : Nat := v.text.length
def wP (p : PPair) : Nat := wV p.h + wV p.t
theorem szValue_eq (v : PVal) (h : v.wf) (n : Int) (h0 : 0 ≤ n) (h1 : n ≤ 1048576) : w_szValue v n = some (szw (wV v) n) := by
  unfold w_szValue szw wV
  have : v.text.length ≤ 9223372036854775807 := h.2.2
  rw [chk_t (by omega)]
  split <;> rfl
theorem szPair_eq (p : PPair) (h : p.wf) (n : Int) (h0 : 0 ≤ n) (h1 : n ≤ 1048576) : w_szPair p n = some (szw (wP p) n) := by
  unfold w_szPair
  have e : szw (wP p) n = szw (wV p.t) (szw (wV p.h) n) := by rw [szw_szw]; rfl
  rw [szValue_eq _ h.1 n h0 h1, bnd_eq, e]
  by_cases f : szw (wV p.h) n < 0
  · rw [if_pos f, szw_neg f, szw_neg (w := wV p.t) (by unfold szw; rw [if_pos (by omega)]; omega)]
  · have f1 := szw_pos f
    rw [if_neg f, szValue_eq _ h.2 _ (by omega) (by omega), bnd_eq, szw_if]
theorem szPairS_eq (ps : List PPair) (h : ps.length ≤ 9223372036854775807 ∧ ∀ p ∈ ps, p.wf) (n : Int) (h0 : 0 ≤ n) (h1 : n ≤ 1048576) : w_szPairS ps n = some (szw (wts wP ps) n) := by
  unfold w_szPairS
  exact szS_eq (L := w_szPairS_L1 ps) (E := w_szPair) wP ps n (fun x hx m a b => szPair_eq x (h.2 x hx) m a (by omega)) (fun go left i => rfl) ⟨h0, h1⟩ h.1
theorem small_wP {ps : List PPair} (h : wts wP ps ≤ 1048576) : pairsSmall ps := by
  have h' : ps.length + wsum wP ps ≤ 1048576 := h
  refine ⟨by omega, fun p hp => ?_⟩
  have h1 := wsum_mem (wt := wP) hp
  have h2 : p.h.text.length + p.t.text.length = wP p := rfl
  exact ⟨by show p.h.text.length ≤ _; omega, by show p.t.text.length ≤ _; omega⟩
theorem toPairS_eq (ps : List PPair) (h : ps.length ≤ 1048576) : w_toPairS ps = some ps := by
  unfold w_toPairS
  exact toS_eq (L := w_toPairS_L1 ps) (T := w_toPair) _ ps 64 (by omega) h (fun x _ => rfl) (fun go i out => rfl)
theorem eqValue_refl (v : PVal) : w_eqValue v v = some true := by unfold w_eqValue; simp
theorem eqPairS_refl (ps : List PPair) (h : ps.length ≤ 1048576) : w_eqPairS ps ps = some true := by
  unfold w_eqPairS
  exact eqS_refl (L := w_eqPairS_L1 ps ps) (E := w_eqPair) ps h (fun x _ => by unfold w_eqPair; rw [eqValue_refl, bnd_eq, if_pos rfl, eqValue_refl, bnd_eq, if_pos rfl]) (fun go i => rfl)
end Go.Abs
