
import Derived.Test.YtmgigglpdhoneaaGreatLibP
import Derived.Test.YtmgigglpdhoneaaGreatLibF
set_option linter.unusedVariables false
set_option linter.unusedSimpArgs false
namespace Go.Abs
def symI (b : Int) : Bool := (decide (97 ≤ b) && decide (b ≤ 122)) || (decide (48 ≤ b) && decide (b ≤ 57)) || markOdd.contains b
theorem symI_b (b : UInt8) : symI b.toNat = markB b := rfl
theorem iB (b : Int) : i_isDigit b = some (decide (48 ≤ b) && decide (b ≤ 57)) := by
 unfold i_isDigit
 by_cases h : 48 ≤ b <;> simp [h]
theorem aB (b : Int) : s_l1Digit b = some (decide (48 ≤ b) && decide (b ≤ 57)) := by
 unfold s_l1Digit
 by_cases h : 48 ≤ b <;> simp [h]
theorem U7 (b : Int) (x : Bool) : i_symbolByte_J1 b x = some (x || markOdd.contains b) := by
 unfold i_symbolByte_J1
 cases x
 ·by_cases h : markOdd.contains b = true
  ·simp only [markOdd, List.contains_cons, Bool.or_eq_true, beq_iff_eq, List.contains_nil] at h
   rcases h with h | h | h | h | h | h | h | h | h | h | h | h
   all_goals first | (subst h; rfl) | cases h
  ·have h' : markOdd.contains b = false := by simpa using h
   simp only [markOdd, List.contains_cons, Bool.or_eq_true, beq_iff_eq, List.contains_nil, not_or] at h
   rw [h']
   simp [h]
 ·rfl
theorem bZ (b : Int) : i_symbolByte b = some (symI b) := by
 unfold i_symbolByte symI
 simp only [U7]
 by_cases h1 : 97 ≤ b <;> by_cases h2 : b ≤ 122 <;> by_cases h3 : 48 ≤ b <;> simp [h1, h2, h3]
theorem dT (b : Int) (x : Bool) : s_l1Mark_J1 b x = some (x || markOdd.contains b) := by
 unfold s_l1Mark_J1
 cases x
 ·simp only [Bool.false_eq_true, if_false, Bool.false_or]
  have := I7 (L := s_l1Mark_L2 b) 11 (fun i => some ((markTab.drop i).any fun c => decide (((c.toNat : Nat) : Int) = b))) (by omega) (fun go i hi hgo => ?_) (fun go => ?_)
  ·rw [this, List.drop_zero, markTab_any]
  ·show s_l1Mark_L2b b go i = _
   unfold s_l1Mark_L2b
   have hl : i < markTab.length := hi
   have hl' : (i : Int) < 11 := by omega
   simp only [show ([33, 63, 42, 60, 62, 61, 47, 43, 45, 46, 95] : List UInt8) = markTab from rfl, show (markTab.length : Int) = 11 from rfl, hl', if_true, r8 hl, i9]
   rw [o3 (by omega), hgo, List.drop_eq_getElem_cons hl, List.any_cons]
   by_cases h : (markTab[i].toNat : Int) = b <;> simp [h]
  ·show s_l1Mark_L2b b go ((11 : Nat) : Int) = _
   rfl
 ·rfl
theorem s_l1Mark_eq (b : Int) : s_l1Mark b = some (symI b) := by
 unfold s_l1Mark symI
 simp only [dT, aB, i9]
 by_cases h1 : 97 ≤ b <;> by_cases h2 : b ≤ 122 <;> simp [h1, h2]
def SM (l : List UInt8) : Prop := l.length ≤ 9223372036854775806
theorem bV (s : List UInt8) (h : SM s) : itr (i_IsSymbol_L2 s) LF 0 = some (s.all markB) := by
 rw [cD s markB (some true) (some false) (by unfold SM at h; omega) (fun go i hi => ?_) (fun go => ?_)]
 ·cases s.all markB <;> rfl
 ·show i_IsSymbol_L2b s go i = _
  unfold i_IsSymbol_L2b SM at *
  simp only [show ((i : Int) < (s.length : Int)) from by omega, if_true, r8 hi, i9, bZ, symI_b]
  rw [o3 (by omega)]
 ·show i_IsSymbol_L2b s go _ = _
  unfold i_IsSymbol_L2b
  simp
theorem cZ (s : List UInt8) (h : SM s) : itr (s_IsSymbol_L2 s) LF 0 = some (s.all markB) := by
 rw [cD s markB (some true) (some false) (by unfold SM at h; omega) (fun go i hi => ?_) (fun go => ?_)]
 ·cases s.all markB <;> rfl
 ·show s_IsSymbol_L2b s go i = _
  unfold s_IsSymbol_L2b SM at *
  simp only [show ((i : Int) < (s.length : Int)) from by omega, if_true, r8 hi, i9, s_l1Mark_eq, symI_b]
  rw [o3 (by omega)]
 ·show s_IsSymbol_L2b s go _ = _
  unfold s_IsSymbol_L2b
  simp
theorem fF (s : List UInt8) (h : SM s) : i_IsSymbol s = some (isSymbol s) := by
 unfold i_IsSymbol
 have hJ : ∀ b, i_IsSymbol_J1 s b = some (!b && s.all markB) := fun b => by
  unfold i_IsSymbol_J1
  cases b
  ·simp [bV s h]
  ·rfl
 simp only [hJ, iB, i9]
 unfold isSymbol headBad isDigit
 by_cases h1 : (s.length : Int) < 1
 ·simp [h1]
 ·by_cases h2 : (s.length : Int) > 16
  ·simp [h1, h2]
  ·have hl : 0 < s.length := by omega
   have e0 : nth s 0 = some (s.getD 0 0) := by rw [show (0 : Int) = ((0 : Nat) : Int) from rfl, r8 hl]; simp [List.getD, List.getElem?_eq_getElem hl]
   simp only [h1, h2, if_false, e0, i9]
   generalize s.getD 0 0 = b0
   by_cases h3 : (decide (48 ≤ (b0.toNat : Int)) && decide ((b0.toNat : Int) ≤ 57)) = true
   ·simp [h3]
   ·simp only [h3, if_false]
    by_cases h4 : (b0.toNat : Int) = 45
    ·by_cases h5 : (s.length : Int) > 1
     ·have hl1 : 1 < s.length := by omega
      have e1 : nth s 1 = some (s.getD 1 0) := by rw [show (1 : Int) = ((1 : Nat) : Int) from rfl, r8 hl1]; simp [List.getD, List.getElem?_eq_getElem hl1]
      simp [h4, h5, e1]
     ·simp [h4, h5]
    ·simp [h4]
theorem D0 (x a b : Int) : s_l1In x a b = some (inside x a b) := by
 unfold s_l1In inside
 by_cases h : a ≤ x <;> simp [h]
theorem fW (s : List UInt8) (h : SM s) : s_IsSymbol s = some (isSymbol s) := by
 unfold s_IsSymbol
 have hJ : ∀ b, s_IsSymbol_J1 s b = some (!b && s.all markB) := fun b => by
  unfold s_IsSymbol_J1
  cases b
  ·simp [cZ s h]
  ·rfl
 simp only [hJ, aB, i9, D0]
 unfold isSymbol headBad isDigit inside
 by_cases h1 : (s.length : Int) < 1
 ·have h1' : (decide (1 ≤ (s.length : Int))) = false := by simp; omega
  simp [h1, h1']
 ·by_cases h2 : (s.length : Int) > 16
  ·simp [h1, h2]; omega
  ·have hl : 0 < s.length := by omega
   have e0 : nth s 0 = some (s.getD 0 0) := by rw [show (0 : Int) = ((0 : Nat) : Int) from rfl, r8 hl]; simp [List.getD, List.getElem?_eq_getElem hl]
   have h1' : 1 ≤ (s.length : Int) := by omega
   have h2' : (s.length : Int) ≤ 16 := by omega
   simp only [h1', h2', h1, h2, decide_true, Bool.and_self, if_true, e0, i9]
   generalize s.getD 0 0 = b0
   by_cases h3 : (decide (48 ≤ (b0.toNat : Int)) && decide ((b0.toNat : Int) ≤ 57)) = true
   ·simp [h3]
   ·simp only [h3, if_false]
    by_cases h4 : (b0.toNat : Int) = 45
    ·by_cases h5 : (s.length : Int) > 1
     ·have hl1 : 1 < s.length := by omega
      have e1 : nth s 1 = some (s.getD 1 0) := by rw [show (1 : Int) = ((1 : Nat) : Int) from rfl, r8 hl1]; simp [List.getD, List.getElem?_eq_getElem hl1]
      simp [h4, h5, e1]
     ·simp [h4, h5]
    ·simp [h4]
theorem bY (s : List UInt8) (h : SM s) : i_stringText s = some (isText s) := by
 unfold i_stringText isText
 have hL : itr (i_stringText_L1 s) LF 0 = some (s.all fun b => !badChar b) := by
  rw [cD s (fun b => !badChar b) (some true) (some false) (by unfold SM at h; omega) (fun go i hi => ?_) (fun go => ?_)]
  ·cases (s.all fun b => !badChar b) <;> rfl
  ·show i_stringText_L1b s go i = _
   unfold i_stringText_L1b SM at *
   simp only [show ((i : Int) < (s.length : Int)) from by omega, if_true, r8 hi, i9]
   rw [o3 (by omega)]
   unfold badChar
   by_cases h1 : (s[i].toNat : Int) < 32 <;> by_cases h2 : (s[i].toNat : Int) > 126 <;> by_cases h3 : (s[i].toNat : Int) = 34 <;> simp [h1, h2, h3]
  ·show i_stringText_L1b s go _ = _
   unfold i_stringText_L1b
   simp
 rw [hL]
 by_cases h1 : (s.length : Int) > 20
 ·have : (decide ((s.length : Int) ≤ 20)) = false := by simp; omega
  simp [h1, this]
 ·have : (s.length : Int) ≤ 20 := by omega
  simp [h1]; omega
theorem fX (s : List UInt8) (h : SM s) : s_l1String s = some (isText s) := by
 unfold s_l1String isText
 rw [cD s (fun b => !badChar b) (some (decide ((s.length : Int) ≤ 20))) (some false) (by unfold SM at h; omega) (fun go i hi => ?_) (fun go => ?_)]
 ·cases (s.all fun b => !badChar b) <;> simp
 ·show s_l1String_L1b s go i = _
  unfold s_l1String_L1b SM at *
  simp only [show ((i : Int) < (s.length : Int)) from by omega, if_true, r8 hi, i9]
  rw [o3 (by omega)]
  unfold badChar
  by_cases h1 : (s[i].toNat : Int) < 32 <;> by_cases h2 : (s[i].toNat : Int) > 126 <;> by_cases h3 : (s[i].toNat : Int) = 34 <;> simp [h1, h2, h3]
 ·show s_l1String_L1b s go _ = _
  unfold s_l1String_L1b
  simp
theorem dO (k n : Int) (t : List UInt8) (m : Int) (h : SM t) : i_rightNode k n t m = some (PDat.nodeOK k n t m) := by
 unfold i_rightNode PDat.nodeOK inside
 simp only [fF t h, bY t h, i9]
 repeat' split
 all_goals simp_all <;> omega
theorem s_l1Node_eq (k n : Int) (t : List UInt8) (m : Int) (h : SM t) : s_l1Node k n t m = some (PDat.nodeOK k n t m) := by
 unfold s_l1Node PDat.nodeOK
 simp only [fW t h, fX t h, D0, i9]
 repeat' split
 all_goals simp_all <;> omega
end Go.Abs

namespace Go.Abs
open PDat
theorem small_SM {d : PDat} (h : d.small) : SM d.text := by
 have := ((gB d).1 h.1).1
 unfold SM; omega
theorem G8 {d : PDat} (h : d.small) : d.items.length ≤ 1048576 := by
 have h1 := cnts_len d.items
 have h2 := h.2
 rw [cnt_eq] at h2
 omega
theorem v7 {d : PDat} (h : d.small) {i : Nat} (hi : i < d.items.length) : (d.items[i]).small ∧ (d.items[i]).cnt < d.cnt :=
 ⟨small_item h (List.getElem_mem hi), eX (List.getElem_mem hi)⟩
theorem eq_loop {E : PDat → PDat → Option Bool} {L : (Int → Option Bool) → Int → Option Bool} (a b : PDat) (hl : a.items.length = b.items.length) (hn : a.items.length ≤ 1048576)
 (hE : ∀ i (h : i < a.items.length) (h2 : i < b.items.length), E a.items[i] b.items[i] = some (eqb a.items[i] b.items[i]))
 (hL : ∀ go (i : Int), L go i = if i < (a.items.length : Int) then bnd (nth a.items i) fun x => bnd (nth b.items i) fun y => bnd (E x y) fun e => if e = true then chk (I64 (i + 1)) (go (i + 1)) else some false else some true) :
 itr L LF 0 = some (eqbs a.items b.items) := by
 rw [I7 (L := L) a.items.length (fun i => some (eqbs (a.items.drop i) (b.items.drop i))) (by omega) (fun go i hi hgo => ?_) (fun go => ?_)]
 ·rfl
 ·have hi2 : i < b.items.length := by omega
  rw [hL, if_pos (by omega), r8 hi, r8 hi2]
  simp only [i9, hE i hi hi2]
  rw [o3 (by omega), hgo, List.drop_eq_getElem_cons hi, List.drop_eq_getElem_cons hi2, eqbs]
  cases eqb a.items[i] b.items[i] <;> simp
 ·rw [hL, if_neg (by omega), List.drop_length, hl, List.drop_length]; rfl
theorem Q3 : ∀ (n : Nat) (a b : PDat), a.cnt < n → a.small → i_EqualData n a b = some (eqb a b)
 | 0, a, b, h, _ => by omega
 | n + 1, a, b, h, ha => by
  show i_EqualData_b (i_EqualData n) a b = _
  unfold i_EqualData_b
  rw [eqb_eq]
  by_cases h1 : a.kind = b.kind <;> by_cases h2 : a.number = b.number <;> by_cases h3 : a.text = b.text <;> simp only [h1, h2, h3, if_true, if_false, decide_true, decide_false, Bool.true_and, Bool.false_and]
  by_cases h4 : a.items.length = b.items.length
  ·rw [if_pos (by omega), eq_loop (L := i_EqualData_L1 (i_EqualData n) a b) a b h4 (G8 ha) (E := i_EqualData n) (fun i hi hi2 => Q3 n _ _ (by have := (v7 ha hi).2; omega) (v7 ha hi).1) (fun go i => rfl)]
  ·rw [if_neg (by omega)]
   cases he : eqbs a.items b.items
   ·rfl
   ·exact absurd (fB he) h4
theorem Q7 : ∀ (n : Nat) (a b : PDat), a.cnt < n → a.small → s_EqualData n a b = some (eqb a b)
 | 0, a, b, h, _ => by omega
 | n + 1, a, b, h, ha => by
  show s_EqualData_b (s_EqualData n) a b = _
  unfold s_EqualData_b
  rw [eqb_eq]
  by_cases h1 : a.kind = b.kind <;> by_cases h2 : a.number = b.number <;> by_cases h3 : a.text = b.text <;> simp only [h1, h2, h3, if_true, if_false, decide_true, decide_false, Bool.true_and, Bool.false_and]
  by_cases h4 : a.items.length = b.items.length
  ·rw [if_pos (by omega), eq_loop (L := s_EqualData_L1 (s_EqualData n) a b) a b h4 (G8 ha) (E := s_EqualData n) (fun i hi hi2 => Q7 n _ _ (by have := (v7 ha hi).2; omega) (v7 ha hi).1) (fun go i => rfl)]
  ·rw [if_neg (by omega)]
   cases he : eqbs a.items b.items
   ·rfl
   ·exact absurd (fB he) h4
mutual
theorem eqb_true : ∀ {a b : PDat}, eqb a b = true → a = b
 | .mk k n t is, .mk k' n' t' is', h => by
  simp only [eqb, Bool.and_eq_true, decide_eq_true_eq] at h
  obtain ⟨rfl, rfl, rfl, h⟩ := h
  rw [gV h]
theorem gV : ∀ {a b : List PDat}, eqbs a b = true → a = b
 | [], [], _ => rfl
 | x :: r, y :: s, h => by
  simp only [eqbs, Bool.and_eq_true] at h
  rw [eqb_true h.1, gV h.2]
 | [], _ :: _, h => by simp [eqbs] at h
 | _ :: _, [], h => by simp [eqbs] at h
end
theorem RF_cnt {d : PDat} (h : d.small) : d.cnt < RF := by rw [RF_eq]; have := h.2; omega
theorem Z7 : ∀ (n : Nat) (d : PDat) (deep nodes : Int), d.cnt < n → d.small → 0 ≤ deep → deep ≤ 21 → 0 ≤ nodes → nodes ≤ 600 → i_measure n d deep nodes = some (meas d deep nodes)
 | 0, d, _, _, h, _, _, _, _, _ => by omega
 | n + 1, d, deep, nodes, h, hd, h1, h2, h3, h4 => by
  show i_measure_b (i_measure n) d deep nodes = _
  unfold i_measure_b
  rw [meas_eq, o3 (by omega)]
  by_cases h5 : deep > 20
  ·rw [if_pos h5, if_pos (.inl h5)]
  ·rw [if_neg h5]
   by_cases h6 : nodes + 1 > 600
   ·rw [if_pos h6, if_pos (.inr (.inl h6))]
   ·rw [if_neg h6, dO _ _ _ _ (small_SM hd)]
    simp only [i9]
    cases h7 : nodeOK d.kind d.number d.text d.items.length
    ·simp
    ·rw [if_pos rfl, if_neg (by simp; omega)]
     have hs := G8 hd
     rw [y9 (L := i_measure_L1 (i_measure n) d deep) d.items.length (fun i a => 0 ≤ a ∧ a ≤ 600) (fun i a => some (measL (d.items.drop i) (deep + 1) a)) (by omega) (fun go i a hi ha hgo => ?_) (fun go a ha => ?_) (by omega)]
     ·rfl
     ·show i_measure_L1b (i_measure n) d deep go i a = _
      unfold i_measure_L1b
      rw [if_pos (by omega), r8 hi]
      simp only [i9]
      rw [o3 (by omega), Z7 n _ _ _ (by have := (v7 hd hi).2; omega) (v7 hd hi).1 (by omega) (by omega) ha.1 ha.2]
      simp only [i9]
      rw [List.drop_eq_getElem_cons hi, measL]
      by_cases h8 : (meas d.items[i] (deep + 1) a).1 = true
      ·rw [if_pos h8, if_pos h8, o3 (by omega), hgo]
       have := (N7.1 d.items[i] (deep + 1) a)
       have h9 := this.1.1 h8
       have h10 := this.2 h8
       omega
      ·rw [if_neg h8, if_neg h8]
     ·show i_measure_L1b (i_measure n) d deep go _ a = _
      unfold i_measure_L1b
      rw [if_neg (by omega), List.drop_length]; rfl
theorem iA (d : PDat) (h : d.small) : i_IsDatum d = some d.valid := by
 unfold i_IsDatum
 rw [Z7 RF d 1 0 (RF_cnt h) h (by omega) (by omega) (by omega) (by omega)]
 simp only [i9, meas_valid]
theorem s_l1Few_eq (n : Nat) : ∀ (d : PDat) (left : Int), d.cnt < n → d.small → 0 ≤ left → left ≤ 600 → s_l1Few n d left = some (decide (0 ≤ few d left), few d left) := by
 induction n with
 | zero => intro d _ h; omega
 | succ n ih =>
  intro d left h hd h1 h2
  show s_l1Few_b (s_l1Few n) d left = _
  unfold s_l1Few_b
  rw [few_eq, o3 (by omega)]
  have hs := G8 hd
  rw [y9 (L := s_l1Few_L1 (s_l1Few n) d) d.items.length (fun i a => -1 ≤ a ∧ a ≤ 600) (fun i a => some (decide (0 ≤ fews (d.items.drop i) a), fews (d.items.drop i) a)) (by omega) (fun go i a hi ha hgo => ?_) (fun go a ha => ?_) (by omega)]
  ·rw [List.drop_zero]
  ·show s_l1Few_L1b (s_l1Few n) d go i a = _
   unfold s_l1Few_L1b s_l1Few_J2
   rw [if_pos (by omega), List.drop_eq_getElem_cons hi, fews]
   by_cases h0 : 0 ≤ a
   ·rw [if_pos (by simpa using h0), if_pos h0, r8 hi]
    rw [i9]
    rw [ih _ _ (by have := (v7 hd hi).2; omega) (v7 hd hi).1 h0 ha.2]
    rw [i9]
    have := (T9.1 d.items[i] a h0).1
    generalize few d.items[i] a = z at this ⊢
    rw [o3 (by omega), hgo _ (by omega)]
   ·rw [if_neg (by simpa using h0), if_neg h0]
  ·show s_l1Few_L1b (s_l1Few n) d go _ a = _
   unfold s_l1Few_L1b s_l1Few_J2
   rw [if_neg (by omega), List.drop_length]
   simp only [fews, Bool.false_eq_true, if_false]
   rfl
theorem iQ (n : Nat) : ∀ (d : PDat), d.cnt < n → d.small → s_DepthOf n d = some d.depth := by
 induction n with
 | zero => intro d h; omega
 | succ n ih =>
  intro d h hd
  show s_DepthOf_b (s_DepthOf n) d = _
  unfold s_DepthOf_b
  have hs := G8 hd
  have hc := hd.2
  have hdc := T5.1 d
  have hmax : ∀ x ∈ d.items, 0 ≤ x.depth ∧ x.depth ≤ 1048577 := fun x hx => by
   have h1 := T5.1 x
   have h2 := eX hx
   omega
  rw [fH (L := s_DepthOf_L1 (s_DepthOf n) d) d.items.length (fun i a => 0 ≤ a ∧ a ≤ 1048577) (fun i a => some (max a (depths (d.items.drop i)) + 1)) (by omega) (fun go i a hi ha hgo => ?_) (fun go a ha => ?_) (by omega)]
  ·rw [T6, List.drop_zero]
   have := u5 d.items
   rw [Int.max_eq_right this]
  ·show s_DepthOf_L1b (s_DepthOf n) d go a i = _
   unfold s_DepthOf_L1b
   have hx := hmax _ (List.getElem_mem hi)
   rw [if_pos (by omega), r8 hi]
   rw [i9]
   rw [ih _ (by have := (v7 hd hi).2; omega) (v7 hd hi).1]
   rw [i9]
   rw [List.drop_eq_getElem_cons hi, depths]
   generalize depth d.items[i] = z at hx ⊢
   rw [o3 (by omega), hgo _ (by omega), Int.max_assoc]
  ·show s_DepthOf_L1b (s_DepthOf n) d go a _ = _
   unfold s_DepthOf_L1b
   rw [if_neg (by omega), List.drop_length, o3 (by omega)]
   simp only [depths]
   rw [Int.max_eq_left ha.1]
theorem aD : ∀ (n : Nat) (d : PDat), d.cnt < n → d.small → s_l1Nodes n d = some d.okAll
 | 0, d, h, _ => by omega
 | n + 1, d, h, hd => by
  show s_l1Nodes_b (s_l1Nodes n) d = _
  unfold s_l1Nodes_b
  have hs := G8 hd
  rw [okAll_eq, I7 (L := s_l1Nodes_L1 (s_l1Nodes n) d) d.items.length (fun i => some (okAlls (d.items.drop i) && nodeOK d.kind d.number d.text d.items.length)) (by omega) (fun go i hi hgo => ?_) (fun go => ?_)]
  ·rw [List.drop_zero, Bool.and_comm]
  ·show s_l1Nodes_L1b (s_l1Nodes n) d go i = _
   unfold s_l1Nodes_L1b
   rw [if_pos (by omega), r8 hi]
   simp only [i9]
   rw [aD n _ (by have := (v7 hd hi).2; omega) (v7 hd hi).1]
   simp only [i9]
   rw [o3 (by omega), hgo, List.drop_eq_getElem_cons hi, okAlls]
   cases okAll d.items[i] <;> simp
  ·show s_l1Nodes_L1b (s_l1Nodes n) d go _ = _
   unfold s_l1Nodes_L1b
   rw [if_neg (by omega), List.drop_length, s_l1Node_eq _ _ _ _ (small_SM hd)]
   simp [okAlls]
theorem iR (d : PDat) (h : d.small) : s_IsDatum d = some d.valid := by
 unfold s_IsDatum
 rw [s_l1Few_eq RF d 600 (RF_cnt h) h (by omega) (by omega), iQ RF d (RF_cnt h) h, aD RF d (RF_cnt h) h]
 simp only [i9]
 rw [← few_valid]
 by_cases h1 : 0 ≤ few d 600 <;> by_cases h2 : d.depth ≤ 20 <;> simp [h1, h2]
end Go.Abs

namespace Go.Abs
open PDat
mutual
def wD : PDat → Nat
 | .mk _ _ t is => t.length + wDs is
def wDs : List PDat → Nat
 | [] => 0
 | d :: r => 1 + wD d + wDs r
end
theorem aL (d : PDat) : wD d = d.text.length + wDs d.items := by cases d; rfl
theorem jC : ∀ ds : List PDat, wDs ds = wts wD ds
 | [] => rfl
 | d :: r => by have := jC r; unfold wts at *; simp [wDs]; omega
theorem gG : ∀ {ds : List PDat} {x : PDat}, x ∈ ds → wD x < wDs ds
 | d :: r, x, h => by
  unfold wDs
  rcases List.mem_cons.1 h with rfl | h
  ·omega
  ·have := gG h; omega
theorem Z1 : (∀ d : PDat, d.cnt ≤ wD d) ∧ ∀ ds : List PDat, cnts ds ≤ wDs ds := by
 refine ind (fun ds h => ?_) (fun d h => ?_)
 ·induction ds with
  | nil => simp [cnts]
  | cons x r ih => have := h x (by simp); have := ih (fun y hy => h y (by simp [hy])); unfold cnts wDs; omega
 ·rw [cnt_eq, aL]; omega
theorem short_wD : (∀ d : PDat, wD d ≤ 1048576 → d.short) ∧ ∀ ds : List PDat, wDs ds ≤ 1048576 → shorts ds := by
 refine ind (fun ds h => ?_) (fun d h => ?_)
 ·induction ds with
  | nil => intro _; trivial
  | cons x r ih => intro hw; unfold wDs at hw; exact ⟨h x (by simp) (by omega), ih (fun y hy => h y (by simp [hy])) (by omega)⟩
 ·intro hw; rw [aL] at hw; exact (gB d).2 ⟨by omega, h (by omega)⟩
theorem small_wD {d : PDat} (h : wD d ≤ 1048576) : d.small := ⟨short_wD.1 d h, by have := Z1.1 d; omega⟩
def fit (d : PDat) : Prop := d.wf
theorem wf_len {d : PDat} (h : d.wf) : d.text.length ≤ 9223372036854775807 ∧ d.items.length ≤ 9223372036854775807 ∧ ∀ x ∈ d.items, x.wf := by
 have := (wf_eq d).1 h
 exact ⟨this.2.2.1, this.2.2.2.1, fun x hx => wfs_mem this.2.2.2.2 hx⟩
theorem w_sz_eq : ∀ n : Nat, (∀ d : PDat, d.wf → ∀ left : Int, 0 ≤ left → left ≤ 1048576 → 2 * left + 2 ≤ n → w_szDatum n d left = some (szw (wD d) left)) ∧ (∀ ds : List PDat, ds.length ≤ 9223372036854775807 → (∀ x ∈ ds, x.wf) → ∀ left : Int, 0 ≤ left → left ≤ 1048576 → 2 * left + 1 ≤ n → w_szDatumS n ds left = some (szw (wDs ds) left))
 | 0 => ⟨fun d _ left h1 _ h2 => by omega, fun ds _ _ left h1 _ h2 => by omega⟩
 | n + 1 => by
  have ih := w_sz_eq n
  refine ⟨fun d hw left h0 h1 h => ?_, fun ds hl hw left h0 h1 h => ?_⟩
  ·show w_szDatum_b (w_szDatum n) (w_szDatumS n) d left = _
   unfold w_szDatum_b
   have hw' := wf_len hw
   rw [o3 (by omega), aL, ← dD]
   by_cases hx : left - (d.text.length : Int) < 0
   ·have e : szw d.text.length left = -1 := by unfold szw; rw [if_pos hx]
    rw [if_pos hx, e]; unfold szw; rw [if_pos (by omega)]
   ·have e : szw d.text.length left = left - d.text.length := by unfold szw; rw [if_neg hx]
    rw [if_neg hx, e, ih.2 d.items hw'.2.1 hw'.2.2 _ (by omega) (by omega) (by omega), i9, szw_if]
  ·show w_szDatumS_b (w_szDatum n) (w_szDatumS n) ds left = _
   unfold w_szDatumS_b
   rw [jC]
   refine szS_eq (L := w_szDatumS_L1 (w_szDatum n) ds) (E := w_szDatum n) wD ds left (fun x hx m hm hm2 => ih.1 x (hw x hx) m hm (by omega) ?_) (fun go left i => rfl) ⟨h0, h1⟩ hl
   have : 0 < ds.length := List.length_pos_of_mem hx
   omega
def rfOK (d : PDat) : Prop := 2 * d.cnt + 1 < RF
theorem Y1 {d : PDat} (h : d.small) : rfOK d := by unfold rfOK; rw [RF_eq]; have := h.2; omega
theorem w_to_eq : ∀ n : Nat, (∀ d : PDat, 2 * d.cnt + 1 < n → d.small → w_toDatum n d = some d) ∧ (∀ ds : List PDat, 2 * cnts ds < n → cnts ds ≤ 1048576 → (∀ x ∈ ds, x.small) → w_toDatumS n ds = some ds)
 | 0 => ⟨fun d h => by omega, fun ds h => by omega⟩
 | n + 1 => by
  have ih := w_to_eq n
  refine ⟨fun d h hs => ?_, fun ds h hl hw => ?_⟩
  ·show w_toDatum_b (w_toDatum n) (w_toDatumS n) d = _
   unfold w_toDatum_b
   have hc := cnt_eq d
   rw [ih.2 d.items (by omega) (by have := hs.2; omega) (fun x hx => small_item hs hx), i9]
   cases d; rfl
  ·show w_toDatumS_b (w_toDatum n) (w_toDatumS n) ds = _
   unfold w_toDatumS_b
   exact toS_eq (L := w_toDatumS_L1 (w_toDatum n) ds) (T := w_toDatum n) _ ds 56 (by omega) (by have := cnts_len ds; omega) (fun x hx => ih.1 x (by have := cnts_mem hx; omega) (hw x hx)) (fun go i out => rfl)
theorem w_eq_eq : ∀ n : Nat, (∀ d : PDat, 2 * d.cnt + 1 < n → d.small → w_eqDatum n d d = some true) ∧ (∀ ds : List PDat, 2 * cnts ds < n → cnts ds ≤ 1048576 → (∀ x ∈ ds, x.small) → w_eqDatumS n ds ds = some true)
 | 0 => ⟨fun d h => by omega, fun ds h => by omega⟩
 | n + 1 => by
  have ih := w_eq_eq n
  refine ⟨fun d h hs => ?_, fun ds h hl hw => ?_⟩
  ·show w_eqDatum_b (w_eqDatum n) (w_eqDatumS n) d d = _
   unfold w_eqDatum_b
   have hc := cnt_eq d
   rw [if_pos rfl, if_pos rfl, if_pos rfl, ih.2 d.items (by omega) (by have := hs.2; omega) (fun x hx => small_item hs hx), i9, if_pos rfl]
  ·show w_eqDatumS_b (w_eqDatum n) (w_eqDatumS n) ds ds = _
   unfold w_eqDatumS_b
   exact eqS_refl (L := w_eqDatumS_L1 (w_eqDatum n) ds ds) (E := w_eqDatum n) ds (by have := cnts_len ds; omega) (fun x hx => ih.1 x (by have := cnts_mem hx; omega) (hw x hx)) (fun go i => rfl)
theorem toDatum_eq {d : PDat} (h : d.small) : w_toDatum RF d = some d := (w_to_eq RF).1 d (Y1 h) h
theorem eqDatum_eq {d : PDat} (h : d.small) : w_eqDatum RF d d = some true := (w_eq_eq RF).1 d (Y1 h) h
theorem PDat.wf_of {x : Int × Int × List UInt8 × List PDat} (h : (IntKind.i64.min ≤ x.1 ∧ x.1 ≤ IntKind.i64.max) ∧ (IntKind.i64.min ≤ x.2.1 ∧ x.2.1 ≤ IntKind.i64.max) ∧ x.2.2.1.length ≤ 9223372036854775807 ∧ x.2.2.2.length ≤ 9223372036854775807 ∧ ∀ y ∈ x.2.2.2, y.wf) : (PDat.mk x.1 x.2.1 x.2.2.1 x.2.2.2).wf :=
 ⟨h.1, h.2.1, h.2.2.1, h.2.2.2.1, jD h.2.2.2.2⟩
end Go.Abs

namespace Go.Abs
open PDat
theorem itr_ex {σ R : Type} {L : (σ → Option R) → σ → Option R} (Q : R → Prop) (P : σ → Prop) (μ : σ → Nat)
 (step : ∀ go v, P v → (∀ v', P v' → μ v' < μ v → ∃ r, go v' = some r ∧ Q r) → ∃ r, L go v = some r ∧ Q r) : ∀ n v, P v → μ v < n → ∃ r, itr L n v = some r ∧ Q r
 | 0, v, _, h => by omega
 | n + 1, v, hp, h => step (itr L n) v hp fun v' hp' hm => itr_ex Q P μ step n v' hp' (by omega)
theorem fI {σ R : Type} {L : (σ → Option R) → σ → Option R} (Q : R → Prop) (P : σ → Prop) (μ : σ → Nat)
 (step : ∀ go v, P v → (∀ v', P v' → μ v' < μ v → ∃ r, go v' = some r ∧ Q r) → ∃ r, L go v = some r ∧ Q r) (v : σ) (hp : P v) (h : μ v < 18446744073709551616) : ∃ r, itr L LF v = some r ∧ Q r := by
 rw [LF_eq]; exact itr_ex Q P μ step _ v hp h
theorem U9 (k : Int) (h : k ≤ 4611686018427387904) : ∃ t, w_markText k = some t := by
 unfold w_markText
 by_cases h0 : k ≤ 0
 ·rw [if_pos h0]; exact ⟨_, rfl⟩
 ·rw [if_neg h0]
  have := fI (L := w_markText_L1) (fun _ => True) (fun v => 0 ≤ v.1 ∧ v.1 + v.2.length ≤ 4611686018427387904) (fun v => v.1.toNat) (fun go v hv hgo => ?_) (k, []) ⟨by omega, by simpa using h⟩ (by omega)
  ·obtain ⟨t, h1, _⟩ := this; exact ⟨t, h1⟩
  ·obtain ⟨k, out⟩ := v
   show ∃ r, w_markText_L1b go k out = some r ∧ True
   unfold w_markText_L1b
   have h1 : 0 ≤ k := hv.1
   have h2 : k + (out.length : Int) ≤ 4611686018427387904 := hv.2
   by_cases hk : k > 0
   ·rw [if_pos hk, o3 (by omega), o3 (by omega), o3 (by omega), o3 (by simp; omega), o3 (by omega)]
    exact hgo _ ⟨by show 0 ≤ k / 10; omega, by simp; omega⟩ (by show (k / 10).toNat < k.toNat; omega)
   ·rw [if_neg hk, o3 (by simp; omega)]
    exact ⟨_, rfl, trivial⟩
theorem E9 {α : Type} {l : List α} {i : Nat} {v : α} (h : i < l.length) : nth (l.set i v) (i : Int) = some v := by
 rw [r8 (by simpa using h)]; simp
theorem W3 {α : Type} (wt : α → Nat) (x : α) (r : List α) : wts wt (x :: r) = 1 + wt x + wts wt r := by
 unfold wts; simp only [List.length_cons, List.map_cons, List.sum_cons]; omega
theorem mark_loop {α : Type} (wt : α → Nat) (xs : List α) {L : (Int × Int × List α → Option (Int × List α)) → Int × Int × List α → Option (Int × List α)} (k0 B : Int) (hn : xs.length ≤ 1048576) (hB : k0 + 6 * (wts wt xs : Nat) ≤ B)
 (step : ∀ go (i : Nat) (hi : i < xs.length) k a, a.length = xs.length → a[i]? = some xs[i] → k0 ≤ k → k + 6 * ((1 + wt xs[i] : Nat) : Int) ≤ B → ∃ k2 y, L go (k, (i : Int), a) = go (k2, (i : Int) + 1, a.set i y) ∧ k ≤ k2 ∧ k2 ≤ k + 6 * ((1 + wt xs[i] : Nat) : Int))
 (fin : ∀ go k a, a.length = xs.length → L go (k, (xs.length : Int), a) = some (k, a)) :
 ∃ k' a', itr L LF (k0, 0, xs) = some (k', a') ∧ a'.length = xs.length ∧ k0 ≤ k' ∧ k' ≤ B := by
 have := fI (L := L) (fun r => r.2.length = xs.length ∧ k0 ≤ r.1 ∧ r.1 ≤ B) (fun v => (0 ≤ v.2.1 ∧ v.2.1 ≤ xs.length) ∧ v.2.2.length = xs.length ∧ v.2.2.drop v.2.1.toNat = xs.drop v.2.1.toNat ∧ k0 ≤ v.1 ∧ v.1 + 6 * ((wts wt (xs.drop v.2.1.toNat) : Nat) : Int) ≤ B) (fun v => xs.length - v.2.1.toNat) (fun go v hv hgo => ?_) (k0, 0, xs) ⟨⟨Int.le_refl _, by show (0 : Int) ≤ _; omega⟩, rfl, rfl, Int.le_refl _, by simpa using hB⟩ (by show xs.length - 0 < _; omega)
 ·obtain ⟨r, h1, h2, h3, h4⟩ := this
  exact ⟨r.1, r.2, h1, h2, h3, h4⟩
 ·obtain ⟨k, j, a⟩ := v
  obtain ⟨⟨h1, h2⟩, h3, h4, h5, h6⟩ := hv
  simp only at h1 h2 h3 h4 h5 h6
  obtain ⟨i, rfl⟩ := Int.eq_ofNat_of_zero_le h1
  simp only [Int.ofNat_eq_natCast, Int.toNat_natCast] at *
  by_cases hi : i < xs.length
  ·have hai : a[i]? = some xs[i] := by
    have := congrArg (fun l => l[0]?) h4
    simpa [List.getElem?_drop, List.getElem?_eq_getElem hi] using this
   have hw : wts wt (xs.drop i) = 1 + wt xs[i] + wts wt (xs.drop (i + 1)) := by
    rw [List.drop_eq_getElem_cons hi, W3]
   obtain ⟨k2, y, e, g1, g2⟩ := step go i hi k a h3 hai h5 (by rw [hw] at h6; omega)
   rw [e]
   refine hgo (k2, (i : Int) + 1, a.set i y) ⟨⟨by show (0 : Int) ≤ (i : Int) + 1; omega, by show (i : Int) + 1 ≤ _; omega⟩, by simpa using h3, ?_, by show k0 ≤ k2; omega, ?_⟩ ?_
   ·have e2 : ((i : Int) + 1).toNat = i + 1 := by omega
    show (a.set i y).drop ((i : Int) + 1).toNat = xs.drop ((i : Int) + 1).toNat
    rw [e2, List.drop_set_of_lt (by omega)]
    have := congrArg (List.drop 1) h4
    simpa [List.drop_drop, Nat.add_comm] using this
   ·have e2 : ((i : Int) + 1).toNat = i + 1 := by omega
    show k2 + 6 * ((wts wt (xs.drop ((i : Int) + 1).toNat) : Nat) : Int) ≤ B
    rw [e2]
    rw [hw] at h6
    omega
   ·show xs.length - ((i : Int) + 1).toNat < xs.length - (i : Int).toNat
    omega
  ·have : i = xs.length := by omega
   subst this
   rw [fin go k a h3]
   refine ⟨_, rfl, h3, h5, ?_⟩
   rw [List.drop_length] at h6
   have h0 : wts wt ([] : List α) = 0 := rfl
   rw [h0] at h6
   show k ≤ B
   omega
theorem V1 (k n : Int) (t : List UInt8) (is : List PDat) : (PDat.mk k n t is).items = is := rfl
theorem fN (k n : Int) (t : List UInt8) (is : List PDat) : (PDat.mk k n t is).kind = k := rfl
theorem V2 (k n : Int) (t : List UInt8) (is : List PDat) : (PDat.mk k n t is).number = n := rfl
theorem fO (k n : Int) (t : List UInt8) (is : List PDat) : (PDat.mk k n t is).text = t := rfl
theorem cI : ∀ (n : Nat) (ds : List PDat) (k : Int), cnts ds < n → wDs ds ≤ 1048576 → 0 ≤ k → k + 6 * ((wDs ds : Nat) : Int) ≤ 1000000000000 → ∃ k' ds', w_markDatumS n ds k = some (k', ds') ∧ ds'.length = ds.length ∧ k ≤ k' ∧ k' ≤ k + 6 * ((wDs ds : Nat) : Int)
 | 0, ds, k, h, _, _, _ => by omega
 | n + 1, ds, k, h, hc, h0, h1 => by
  show ∃ k' ds', w_markDatumS_b (w_markDatumS n) ds k = some (k', ds') ∧ _
  unfold w_markDatumS_b
  have hl := cnts_len ds
  have hw := Z1.2 ds
  rw [jC] at h1 ⊢
  refine mark_loop wD ds (L := w_markDatumS_L1 (w_markDatumS n)) k (k + 6 * ((wts wD ds : Nat) : Int)) (by omega) (Int.le_refl _) (fun go i hi k1 a ha hai hk hB => ?_) (fun go k1 a ha => ?_)
  ·show ∃ k2 y, w_markDatumS_L1b (w_markDatumS n) go k1 (i : Int) a = _ ∧ _
   unfold w_markDatumS_L1b
   have hia : i < a.length := by omega
   have hm := gG (List.getElem_mem hi)
   have hmem := cnts_mem (List.getElem_mem hi)
   have hx : a[i] = ds[i] := by
    rw [List.getElem?_eq_getElem hia] at hai; exact Option.some.inj hai
   have hwi := aL ds[i]
   have hci := cnt_eq ds[i]
   obtain ⟨t, ht⟩ := U9 (k1 + 1 + 1) (by omega)
   obtain ⟨k', ds', e1, e2, e3, e4⟩ := cI n ds[i].items (k1 + 1 + 1 + 1) (by omega) (by omega) (by omega) (by omega)
   simp only [Int.toNat_natCast, List.set_set]
   rw [if_pos (by omega), r8 hia, i9, o3 (by omega), E9 hia, i9, o3 (by omega), ht, i9, E9 hia, i9, o3 (by omega), E9 hia, i9, hx]
   try simp only [V1, fN, V2, fO]
   rw [e1, i9]
   exact ⟨k', _, (o3 e2).trans (o3 (by omega)), by omega, by omega⟩
  ·show w_markDatumS_L1b (w_markDatumS n) go k1 (ds.length : Int) a = _
   unfold w_markDatumS_L1b
   rw [if_neg (by omega)]
end Go.Abs
