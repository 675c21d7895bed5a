
import Derived.Test.YtmgigglpdhoneaaGreatDoorLibP
import Derived.Test.YtmgigglpdhoneaaGreatDoorLibF
set_option linter.unusedVariables false
set_option linter.unusedSimpArgs false
namespace Go.Abs
def symI (b : Int) : Bool := (decide (97 ≤ b) && decide (b ≤ 122)) || (decide (48 ≤ b) && decide (b ≤ 57)) || markOdd.contains b
theorem symI_b (b : UInt8) : symI b.toNat = markB b := rfl
theorem eV (b : Int) : i_isDigit b = some (decide (48 ≤ b) && decide (b ≤ 57)) := by
 unfold i_isDigit
 by_cases h : 48 ≤ b <;> simp [h]
theorem S7 (b : Int) : s_l1Digit b = some (decide (48 ≤ b) && decide (b ≤ 57)) := by
 unfold s_l1Digit
 by_cases h : 48 ≤ b <;> simp [h]
theorem N5 (b : Int) (x : Bool) : i_symbolByte_J1 b x = some (x || markOdd.contains b) := by
 unfold i_symbolByte_J1
 cases x
 ·by_cases h : markOdd.contains b = true
  ·simp only [markOdd, List.contains_cons, Bool.or_eq_true, beq_iff_eq, List.contains_nil] at h
   rcases h with h | h | h | h | h | h | h | h | h | h | h | h
   all_goals first | (subst h; rfl) | cases h
  ·have h' : markOdd.contains b = false := by simpa using h
   simp only [markOdd, List.contains_cons, Bool.or_eq_true, beq_iff_eq, List.contains_nil, not_or] at h
   rw [h']
   simp [h]
 ·rfl
theorem X7 (b : Int) : i_symbolByte b = some (symI b) := by
 unfold i_symbolByte symI
 simp only [N5]
 by_cases h1 : 97 ≤ b <;> by_cases h2 : b ≤ 122 <;> by_cases h3 : 48 ≤ b <;> simp [h1, h2, h3]
theorem aY (b : Int) (x : Bool) : s_l1Mark_J1 b x = some (x || markOdd.contains b) := by
 unfold s_l1Mark_J1
 cases x
 ·simp only [Bool.false_eq_true, if_false, Bool.false_or]
  have := G7 (L := s_l1Mark_L2 b) 11 (fun i => some ((markTab.drop i).any fun c => decide (((c.toNat : Nat) : Int) = b))) (by omega) (fun go i hi hgo => ?_) (fun go => ?_)
  ·rw [this, List.drop_zero, markTab_any]
  ·show s_l1Mark_L2b b go i = _
   unfold s_l1Mark_L2b
   have hl : i < markTab.length := hi
   have hl' : (i : Int) < 11 := by omega
   simp only [show ([33, 63, 42, 60, 62, 61, 47, 43, 45, 46, 95] : List UInt8) = markTab from rfl, show (markTab.length : Int) = 11 from rfl, hl', if_true, o6 hl, g8]
   rw [j5 (by omega), hgo, List.drop_eq_getElem_cons hl, List.any_cons]
   by_cases h : (markTab[i].toNat : Int) = b <;> simp [h]
  ·show s_l1Mark_L2b b go ((11 : Nat) : Int) = _
   rfl
 ·rfl
theorem s_l1Mark_eq (b : Int) : s_l1Mark b = some (symI b) := by
 unfold s_l1Mark symI
 simp only [aY, S7, g8]
 by_cases h1 : 97 ≤ b <;> by_cases h2 : b ≤ 122 <;> simp [h1, h2]
def SM (l : List UInt8) : Prop := l.length ≤ 9223372036854775806
theorem X4 (s : List UInt8) (h : SM s) : itr (i_IsSymbol_L2 s) LF 0 = some (s.all markB) := by
 rw [L5 s markB (some true) (some false) (by unfold SM at h; omega) (fun go i hi => ?_) (fun go => ?_)]
 ·cases s.all markB <;> rfl
 ·show i_IsSymbol_L2b s go i = _
  unfold i_IsSymbol_L2b SM at *
  simp only [show ((i : Int) < (s.length : Int)) from by omega, if_true, o6 hi, g8, X7, symI_b]
  rw [j5 (by omega)]
 ·show i_IsSymbol_L2b s go _ = _
  unfold i_IsSymbol_L2b
  simp
theorem aD (s : List UInt8) (h : SM s) : itr (s_IsSymbol_L2 s) LF 0 = some (s.all markB) := by
 rw [L5 s markB (some true) (some false) (by unfold SM at h; omega) (fun go i hi => ?_) (fun go => ?_)]
 ·cases s.all markB <;> rfl
 ·show s_IsSymbol_L2b s go i = _
  unfold s_IsSymbol_L2b SM at *
  simp only [show ((i : Int) < (s.length : Int)) from by omega, if_true, o6 hi, g8, s_l1Mark_eq, symI_b]
  rw [j5 (by omega)]
 ·show s_IsSymbol_L2b s go _ = _
  unfold s_IsSymbol_L2b
  simp
theorem N4 (s : List UInt8) (h : SM s) : i_IsSymbol s = some (isSymbol s) := by
 unfold i_IsSymbol
 have hJ : ∀ b, i_IsSymbol_J1 s b = some (!b && s.all markB) := fun b => by
  unfold i_IsSymbol_J1
  cases b
  ·simp [X4 s h]
  ·rfl
 simp only [hJ, eV, g8]
 unfold isSymbol headBad isDigit
 by_cases h1 : (s.length : Int) < 1
 ·simp [h1]
 ·by_cases h2 : (s.length : Int) > 16
  ·simp [h1, h2]
  ·have hl : 0 < s.length := by omega
   have e0 : nth s 0 = some (s.getD 0 0) := by rw [show (0 : Int) = ((0 : Nat) : Int) from rfl, o6 hl]; simp [List.getD, List.getElem?_eq_getElem hl]
   simp only [h1, h2, if_false, e0, g8]
   generalize s.getD 0 0 = b0
   by_cases h3 : (decide (48 ≤ (b0.toNat : Int)) && decide ((b0.toNat : Int) ≤ 57)) = true
   ·simp [h3]
   ·simp only [h3, if_false]
    by_cases h4 : (b0.toNat : Int) = 45
    ·by_cases h5 : (s.length : Int) > 1
     ·have hl1 : 1 < s.length := by omega
      have e1 : nth s 1 = some (s.getD 1 0) := by rw [show (1 : Int) = ((1 : Nat) : Int) from rfl, o6 hl1]; simp [List.getD, List.getElem?_eq_getElem hl1]
      simp [h4, h5, e1]
     ·simp [h4, h5]
    ·simp [h4]
theorem D5 (x a b : Int) : s_l1In x a b = some (inside x a b) := by
 unfold s_l1In inside
 by_cases h : a ≤ x <;> simp [h]
theorem O6 (s : List UInt8) (h : SM s) : s_IsSymbol s = some (isSymbol s) := by
 unfold s_IsSymbol
 have hJ : ∀ b, s_IsSymbol_J1 s b = some (!b && s.all markB) := fun b => by
  unfold s_IsSymbol_J1
  cases b
  ·simp [aD s h]
  ·rfl
 simp only [hJ, S7, g8, D5]
 unfold isSymbol headBad isDigit inside
 by_cases h1 : (s.length : Int) < 1
 ·have h1' : (decide (1 ≤ (s.length : Int))) = false := by simp; omega
  simp [h1, h1']
 ·by_cases h2 : (s.length : Int) > 16
  ·simp [h1, h2]; omega
  ·have hl : 0 < s.length := by omega
   have e0 : nth s 0 = some (s.getD 0 0) := by rw [show (0 : Int) = ((0 : Nat) : Int) from rfl, o6 hl]; simp [List.getD, List.getElem?_eq_getElem hl]
   have h1' : 1 ≤ (s.length : Int) := by omega
   have h2' : (s.length : Int) ≤ 16 := by omega
   simp only [h1', h2', h1, h2, decide_true, Bool.and_self, if_true, e0, g8]
   generalize s.getD 0 0 = b0
   by_cases h3 : (decide (48 ≤ (b0.toNat : Int)) && decide ((b0.toNat : Int) ≤ 57)) = true
   ·simp [h3]
   ·simp only [h3, if_false]
    by_cases h4 : (b0.toNat : Int) = 45
    ·by_cases h5 : (s.length : Int) > 1
     ·have hl1 : 1 < s.length := by omega
      have e1 : nth s 1 = some (s.getD 1 0) := by rw [show (1 : Int) = ((1 : Nat) : Int) from rfl, o6 hl1]; simp [List.getD, List.getElem?_eq_getElem hl1]
      simp [h4, h5, e1]
     ·simp [h4, h5]
    ·simp [h4]
theorem X6 (s : List UInt8) (h : SM s) : i_stringText s = some (isText s) := by
 unfold i_stringText isText
 have hL : itr (i_stringText_L1 s) LF 0 = some (s.all fun b => !badChar b) := by
  rw [L5 s (fun b => !badChar b) (some true) (some false) (by unfold SM at h; omega) (fun go i hi => ?_) (fun go => ?_)]
  ·cases (s.all fun b => !badChar b) <;> rfl
  ·show i_stringText_L1b s go i = _
   unfold i_stringText_L1b SM at *
   simp only [show ((i : Int) < (s.length : Int)) from by omega, if_true, o6 hi, g8]
   rw [j5 (by omega)]
   unfold badChar
   by_cases h1 : (s[i].toNat : Int) < 32 <;> by_cases h2 : (s[i].toNat : Int) > 126 <;> by_cases h3 : (s[i].toNat : Int) = 34 <;> simp [h1, h2, h3]
  ·show i_stringText_L1b s go _ = _
   unfold i_stringText_L1b
   simp
 rw [hL]
 by_cases h1 : (s.length : Int) > 20
 ·have : (decide ((s.length : Int) ≤ 20)) = false := by simp; omega
  simp [h1, this]
 ·have : (s.length : Int) ≤ 20 := by omega
  simp [h1]; omega
theorem dP (s : List UInt8) (h : SM s) : s_l1String s = some (isText s) := by
 unfold s_l1String isText
 rw [L5 s (fun b => !badChar b) (some (decide ((s.length : Int) ≤ 20))) (some false) (by unfold SM at h; omega) (fun go i hi => ?_) (fun go => ?_)]
 ·cases (s.all fun b => !badChar b) <;> simp
 ·show s_l1String_L1b s go i = _
  unfold s_l1String_L1b SM at *
  simp only [show ((i : Int) < (s.length : Int)) from by omega, if_true, o6 hi, g8]
  rw [j5 (by omega)]
  unfold badChar
  by_cases h1 : (s[i].toNat : Int) < 32 <;> by_cases h2 : (s[i].toNat : Int) > 126 <;> by_cases h3 : (s[i].toNat : Int) = 34 <;> simp [h1, h2, h3]
 ·show s_l1String_L1b s go _ = _
  unfold s_l1String_L1b
  simp
theorem aS (k n : Int) (t : List UInt8) (m : Int) (h : SM t) : i_rightNode k n t m = some (PDat.nodeOK k n t m) := by
 unfold i_rightNode PDat.nodeOK inside
 simp only [N4 t h, X6 t h, g8]
 repeat' split
 all_goals simp_all <;> omega
theorem s_l1Node_eq (k n : Int) (t : List UInt8) (m : Int) (h : SM t) : s_l1Node k n t m = some (PDat.nodeOK k n t m) := by
 unfold s_l1Node PDat.nodeOK
 simp only [O6 t h, dP t h, D5, g8]
 repeat' split
 all_goals simp_all <;> omega
end Go.Abs

namespace Go.Abs
open PDat
theorem small_SM {d : PDat} (h : d.small) : SM d.text := by
 have := ((dR d).1 h.1).1
 unfold SM; omega
theorem B5 {d : PDat} (h : d.small) : d.items.length ≤ 1048576 := by
 have h1 := M5 d.items
 have h2 := h.2
 rw [R4] at h2
 omega
theorem p8 {d : PDat} (h : d.small) {i : Nat} (hi : i < d.items.length) : (d.items[i]).small ∧ (d.items[i]).cnt < d.cnt :=
 ⟨R0 h (List.getElem_mem hi), cB (List.getElem_mem hi)⟩
theorem eq_loop {E : PDat → PDat → Option Bool} {L : (Int → Option Bool) → Int → Option Bool} (a b : PDat) (hl : a.items.length = b.items.length) (hn : a.items.length ≤ 1048576)
 (hE : ∀ i (h : i < a.items.length) (h2 : i < b.items.length), E a.items[i] b.items[i] = some (eqb a.items[i] b.items[i]))
 (hL : ∀ go (i : Int), L go i = if i < (a.items.length : Int) then bnd (nth a.items i) fun x => bnd (nth b.items i) fun y => bnd (E x y) fun e => if e = true then chk (I64 (i + 1)) (go (i + 1)) else some false else some true) :
 itr L LF 0 = some (eqbs a.items b.items) := by
 rw [G7 (L := L) a.items.length (fun i => some (eqbs (a.items.drop i) (b.items.drop i))) (by omega) (fun go i hi hgo => ?_) (fun go => ?_)]
 ·rfl
 ·have hi2 : i < b.items.length := by omega
  rw [hL, if_pos (by omega), o6 hi, o6 hi2]
  simp only [g8, hE i hi hi2]
  rw [j5 (by omega), hgo, List.drop_eq_getElem_cons hi, List.drop_eq_getElem_cons hi2, eqbs]
  cases eqb a.items[i] b.items[i] <;> simp
 ·rw [hL, if_neg (by omega), List.drop_length, hl, List.drop_length]; rfl
theorem K7 : ∀ (n : Nat) (a b : PDat), a.cnt < n → a.small → i_EqualData n a b = some (eqb a b)
 | 0, a, b, h, _ => by omega
 | n + 1, a, b, h, ha => by
  show i_EqualData_b (i_EqualData n) a b = _
  unfold i_EqualData_b
  rw [eqb_eq]
  by_cases h1 : a.kind = b.kind <;> by_cases h2 : a.number = b.number <;> by_cases h3 : a.text = b.text <;> simp only [h1, h2, h3, if_true, if_false, decide_true, decide_false, Bool.true_and, Bool.false_and]
  by_cases h4 : a.items.length = b.items.length
  ·rw [if_pos (by omega), eq_loop (L := i_EqualData_L1 (i_EqualData n) a b) a b h4 (B5 ha) (E := i_EqualData n) (fun i hi hi2 => K7 n _ _ (by have := (p8 ha hi).2; omega) (p8 ha hi).1) (fun go i => rfl)]
  ·rw [if_neg (by omega)]
   cases he : eqbs a.items b.items
   ·rfl
   ·exact absurd (cJ he) h4
theorem K9 : ∀ (n : Nat) (a b : PDat), a.cnt < n → a.small → s_EqualData n a b = some (eqb a b)
 | 0, a, b, h, _ => by omega
 | n + 1, a, b, h, ha => by
  show s_EqualData_b (s_EqualData n) a b = _
  unfold s_EqualData_b
  rw [eqb_eq]
  by_cases h1 : a.kind = b.kind <;> by_cases h2 : a.number = b.number <;> by_cases h3 : a.text = b.text <;> simp only [h1, h2, h3, if_true, if_false, decide_true, decide_false, Bool.true_and, Bool.false_and]
  by_cases h4 : a.items.length = b.items.length
  ·rw [if_pos (by omega), eq_loop (L := s_EqualData_L1 (s_EqualData n) a b) a b h4 (B5 ha) (E := s_EqualData n) (fun i hi hi2 => K9 n _ _ (by have := (p8 ha hi).2; omega) (p8 ha hi).1) (fun go i => rfl)]
  ·rw [if_neg (by omega)]
   cases he : eqbs a.items b.items
   ·rfl
   ·exact absurd (cJ he) h4
mutual
theorem eqb_true : ∀ {a b : PDat}, eqb a b = true → a = b
 | .mk k n t is, .mk k' n' t' is', h => by
  simp only [eqb, Bool.and_eq_true, decide_eq_true_eq] at h
  obtain ⟨rfl, rfl, rfl, h⟩ := h
  rw [eN h]
theorem eN : ∀ {a b : List PDat}, eqbs a b = true → a = b
 | [], [], _ => rfl
 | x :: r, y :: s, h => by
  simp only [eqbs, Bool.and_eq_true] at h
  rw [eqb_true h.1, eN h.2]
 | [], _ :: _, h => by simp [eqbs] at h
 | _ :: _, [], h => by simp [eqbs] at h
end
theorem RF_cnt {d : PDat} (h : d.small) : d.cnt < RF := by rw [RF_eq]; have := h.2; omega
theorem S5 : ∀ (n : Nat) (d : PDat) (deep nodes : Int), d.cnt < n → d.small → 0 ≤ deep → deep ≤ 21 → 0 ≤ nodes → nodes ≤ 600 → i_measure n d deep nodes = some (meas d deep nodes)
 | 0, d, _, _, h, _, _, _, _, _ => by omega
 | n + 1, d, deep, nodes, h, hd, h1, h2, h3, h4 => by
  show i_measure_b (i_measure n) d deep nodes = _
  unfold i_measure_b
  rw [meas_eq, j5 (by omega)]
  by_cases h5 : deep > 20
  ·rw [if_pos h5, if_pos (.inl h5)]
  ·rw [if_neg h5]
   by_cases h6 : nodes + 1 > 600
   ·rw [if_pos h6, if_pos (.inr (.inl h6))]
   ·rw [if_neg h6, aS _ _ _ _ (small_SM hd)]
    simp only [g8]
    cases h7 : nodeOK d.kind d.number d.text d.items.length
    ·simp
    ·rw [if_pos rfl, if_neg (by simp; omega)]
     have hs := B5 hd
     rw [u5 (L := i_measure_L1 (i_measure n) d deep) d.items.length (fun i a => 0 ≤ a ∧ a ≤ 600) (fun i a => some (measL (d.items.drop i) (deep + 1) a)) (by omega) (fun go i a hi ha hgo => ?_) (fun go a ha => ?_) (by omega)]
     ·rfl
     ·show i_measure_L1b (i_measure n) d deep go i a = _
      unfold i_measure_L1b
      rw [if_pos (by omega), o6 hi]
      simp only [g8]
      rw [j5 (by omega), S5 n _ _ _ (by have := (p8 hd hi).2; omega) (p8 hd hi).1 (by omega) (by omega) ha.1 ha.2]
      simp only [g8]
      rw [List.drop_eq_getElem_cons hi, measL]
      by_cases h8 : (meas d.items[i] (deep + 1) a).1 = true
      ·rw [if_pos h8, if_pos h8, j5 (by omega), hgo]
       have := (eZ.1 d.items[i] (deep + 1) a)
       have h9 := this.1.1 h8
       have h10 := this.2 h8
       omega
      ·rw [if_neg h8, if_neg h8]
     ·show i_measure_L1b (i_measure n) d deep go _ a = _
      unfold i_measure_L1b
      rw [if_neg (by omega), List.drop_length]; rfl
theorem R8 (d : PDat) (h : d.small) : i_IsDatum d = some d.valid := by
 unfold i_IsDatum
 rw [S5 RF d 1 0 (RF_cnt h) h (by omega) (by omega) (by omega) (by omega)]
 simp only [g8, meas_valid]
theorem s_l1Few_eq (n : Nat) : ∀ (d : PDat) (left : Int), d.cnt < n → d.small → 0 ≤ left → left ≤ 600 → s_l1Few n d left = some (decide (0 ≤ few d left), few d left) := by
 induction n with
 | zero => intro d _ h; omega
 | succ n ih =>
  intro d left h hd h1 h2
  show s_l1Few_b (s_l1Few n) d left = _
  unfold s_l1Few_b
  rw [few_eq, j5 (by omega)]
  have hs := B5 hd
  rw [u5 (L := s_l1Few_L1 (s_l1Few n) d) d.items.length (fun i a => -1 ≤ a ∧ a ≤ 600) (fun i a => some (decide (0 ≤ fews (d.items.drop i) a), fews (d.items.drop i) a)) (by omega) (fun go i a hi ha hgo => ?_) (fun go a ha => ?_) (by omega)]
  ·rw [List.drop_zero]
  ·show s_l1Few_L1b (s_l1Few n) d go i a = _
   unfold s_l1Few_L1b s_l1Few_J2
   rw [if_pos (by omega), List.drop_eq_getElem_cons hi, fews]
   by_cases h0 : 0 ≤ a
   ·rw [if_pos (by simpa using h0), if_pos h0, o6 hi]
    rw [g8]
    rw [ih _ _ (by have := (p8 hd hi).2; omega) (p8 hd hi).1 h0 ha.2]
    rw [g8]
    have := (few_spec.1 d.items[i] a h0).1
    generalize few d.items[i] a = z at this ⊢
    rw [j5 (by omega), hgo _ (by omega)]
   ·rw [if_neg (by simpa using h0), if_neg h0]
  ·show s_l1Few_L1b (s_l1Few n) d go _ a = _
   unfold s_l1Few_L1b s_l1Few_J2
   rw [if_neg (by omega), List.drop_length]
   simp only [fews, Bool.false_eq_true, if_false]
   rfl
theorem fR (n : Nat) : ∀ (d : PDat), d.cnt < n → d.small → s_DepthOf n d = some d.depth := by
 induction n with
 | zero => intro d h; omega
 | succ n ih =>
  intro d h hd
  show s_DepthOf_b (s_DepthOf n) d = _
  unfold s_DepthOf_b
  have hs := B5 hd
  have hc := hd.2
  have hdc := eG.1 d
  have hmax : ∀ x ∈ d.items, 0 ≤ x.depth ∧ x.depth ≤ 1048577 := fun x hx => by
   have h1 := eG.1 x
   have h2 := cB hx
   omega
  rw [itr_Aidx (L := s_DepthOf_L1 (s_DepthOf n) d) d.items.length (fun i a => 0 ≤ a ∧ a ≤ 1048577) (fun i a => some (max a (depths (d.items.drop i)) + 1)) (by omega) (fun go i a hi ha hgo => ?_) (fun go a ha => ?_) (by omega)]
  ·rw [depth_eq, List.drop_zero]
   have := A2 d.items
   rw [Int.max_eq_right this]
  ·show s_DepthOf_L1b (s_DepthOf n) d go a i = _
   unfold s_DepthOf_L1b
   have hx := hmax _ (List.getElem_mem hi)
   rw [if_pos (by omega), o6 hi]
   rw [g8]
   rw [ih _ (by have := (p8 hd hi).2; omega) (p8 hd hi).1]
   rw [g8]
   rw [List.drop_eq_getElem_cons hi, depths]
   generalize depth d.items[i] = z at hx ⊢
   rw [j5 (by omega), hgo _ (by omega), Int.max_assoc]
  ·show s_DepthOf_L1b (s_DepthOf n) d go a _ = _
   unfold s_DepthOf_L1b
   rw [if_neg (by omega), List.drop_length, j5 (by omega)]
   simp only [depths]
   rw [Int.max_eq_left ha.1]
theorem S8 : ∀ (n : Nat) (d : PDat), d.cnt < n → d.small → s_l1Nodes n d = some d.okAll
 | 0, d, h, _ => by omega
 | n + 1, d, h, hd => by
  show s_l1Nodes_b (s_l1Nodes n) d = _
  unfold s_l1Nodes_b
  have hs := B5 hd
  rw [O1, G7 (L := s_l1Nodes_L1 (s_l1Nodes n) d) d.items.length (fun i => some (okAlls (d.items.drop i) && nodeOK d.kind d.number d.text d.items.length)) (by omega) (fun go i hi hgo => ?_) (fun go => ?_)]
  ·rw [List.drop_zero, Bool.and_comm]
  ·show s_l1Nodes_L1b (s_l1Nodes n) d go i = _
   unfold s_l1Nodes_L1b
   rw [if_pos (by omega), o6 hi]
   simp only [g8]
   rw [S8 n _ (by have := (p8 hd hi).2; omega) (p8 hd hi).1]
   simp only [g8]
   rw [j5 (by omega), hgo, List.drop_eq_getElem_cons hi, okAlls]
   cases okAll d.items[i] <;> simp
  ·show s_l1Nodes_L1b (s_l1Nodes n) d go _ = _
   unfold s_l1Nodes_L1b
   rw [if_neg (by omega), List.drop_length, s_l1Node_eq _ _ _ _ (small_SM hd)]
   simp [okAlls]
theorem fS (d : PDat) (h : d.small) : s_IsDatum d = some d.valid := by
 unfold s_IsDatum
 rw [s_l1Few_eq RF d 600 (RF_cnt h) h (by omega) (by omega), fR RF d (RF_cnt h) h, S8 RF d (RF_cnt h) h]
 simp only [g8]
 rw [← few_valid]
 by_cases h1 : 0 ≤ few d 600 <;> by_cases h2 : d.depth ≤ 20 <;> simp [h1, h2]
def PInstr.small (x : PInstr) : Prop := x.d.small
theorem zeroDat_small : zeroDat.small := ⟨⟨by simp, trivial⟩, by simp [zeroDat, cnt, cnts]⟩
theorem R9 (x : PInstr) (h : x.d.small) : i_instrOk x = some (instrOK x) := by
 unfold i_instrOk instrOK inside
 rw [R8 _ h, K7 RF _ _ (RF_cnt h) h]
 simp only [g8, show PDat.mk 0 0 ([] : List UInt8) [] = zeroDat from rfl]
 by_cases h1 : x.op < 1
 ·have : ¬ 1 ≤ x.op := by omega
  simp [h1, this]
 ·have h1' : 1 ≤ x.op := by omega
  by_cases h2 : x.op > 20
  ·have : ¬ x.op ≤ 20 := by omega
   simp [h1, h2, this]
  ·have h2' : x.op ≤ 20 := by omega
   by_cases h3 : x.op = 1
   ·by_cases h4 : x.a = 0 <;> simp [h3, h4]
   ·simp only [h1, h2, h3, h1', h2', if_false, decide_true, Bool.true_and, Bool.and_self]
    cases eqb x.d zeroDat
    ·simp
    ·by_cases h5 : x.a < 0
     ·have : ¬ 0 ≤ x.a := by omega
      simp [h5, this]
     ·have h5' : 0 ≤ x.a := by omega
      by_cases h6 : x.a > 4000
      ·have : ¬ x.a ≤ 4000 := by omega
       simp [h5, h6, this]
      ·have h6' : x.a ≤ 4000 := by omega
       by_cases h7 : x.a = 0 <;> by_cases h8 : x.op = 14 <;> simp [h5, h6, h5', h6', h7, h8]
theorem O7 (x : PInstr) (h : x.d.small) : s_l10Instr x = some (instrOK x) := by
 unfold s_l10Instr instrOK s_l10Plain
 rw [fS _ h, K9 RF _ _ (RF_cnt h) h]
 simp only [g8, show PDat.mk 0 0 ([] : List UInt8) [] = zeroDat from rfl, D5]
 cases inside x.op 1 20
 ·simp
 ·by_cases h3 : x.op = 1
  ·by_cases h4 : x.a = 0 <;> simp [h3, h4]
  ·cases eqb x.d zeroDat
   ·simp [h3]
   ·cases inside x.a 0 4000
    ·simp [h3]
    ·by_cases h7 : x.a = 0 <;> by_cases h8 : x.op = 14 <;> simp [h3, h7, h8]
end Go.Abs

namespace Go.Abs
theorem C4 {α : Type} {d : α} {l : List α} {i : Int} (h : 0 ≤ i) (h2 : i < l.length) : nth l i = some (l.getD i.toNat d) := by
 rw [nth_int h h2]
 have : i.toNat < l.length := by omega
 simp [List.getD, List.getElem?_eq_getElem this]
theorem z2 {α : Type} {d : α} {l : List α} {i : Nat} (h : i < l.length) : nth l (i : Int) = some (l.getD i d) := by
 rw [o6 h]; simp [List.getD, List.getElem?_eq_getElem h]
theorem K4 (n : Int) : n = 1 ∨ n = 2 ∨ n = 3 ∨ n = 4 ∨ n = 5 ∨ n = 6 ∨ n = 7 ∨ n = 8 ∨ n = 9 ∨ n = 10 ∨ n = 11 ∨ n = 12 ∨ n = 13 ∨ n = 14 ∨ n = 15 ∨ n = 16 ∨ n = 17 ∨ n = 18 ∨ n = 19 ∨ n = 20 ∨ (¬ n = 1 ∧ ¬ n = 2 ∧ ¬ n = 3 ∧ ¬ n = 4 ∧ ¬ n = 5 ∧ ¬ n = 6 ∧ ¬ n = 7 ∧ ¬ n = 8 ∧ ¬ n = 9 ∧ ¬ n = 10 ∧ ¬ n = 11 ∧ ¬ n = 12 ∧ ¬ n = 13 ∧ ¬ n = 14 ∧ ¬ n = 15 ∧ ¬ n = 16 ∧ ¬ n = 17 ∧ ¬ n = 18 ∧ ¬ n = 19 ∧ ¬ n = 20) := by omega
def namedOp (x : PInstr) : Prop := x.op = 11 ∨ x.op = 18 ∨ x.op = 19 ∨ x.op = 20
instance (x : PInstr) : Decidable (namedOp x) := by unfold namedOp; infer_instance
theorem i_effect_eq (m : PImage) (x : PInstr) (h : namedOp x → 0 ≤ x.a ∧ x.a < m.codes.length) (ha : 0 ≤ x.a ∧ x.a ≤ 4000) : i_effect m x = some (effectOf m x) := by
 unfold i_effect effectOf
 rw [j5 (by omega), j5 (by omega)]
 by_cases hn : namedOp x
 ·obtain ⟨h1, h2⟩ := h hn
  rw [C4 (d := default) h1 h2]
  unfold namedOp at hn
  rcases hn with hn | hn | hn | hn <;> simp [hn]
 ·unfold namedOp at hn
  simp only [not_or] at hn
  obtain ⟨n1, n2, n3, n4⟩ := hn
  clear h
  rcases K4 x.op with h | h | h | h | h | h | h | h | h | h | h | h | h | h | h | h | h | h | h | h | h <;> first | exact absurd h n1 | exact absurd h n2 | exact absurd h n3 | exact absurd h n4 | simp [h]
theorem aX (m : PImage) (x : PInstr) (h : namedOp x → 0 ≤ x.a ∧ x.a < m.codes.length) (ha : 0 ≤ x.a ∧ x.a ≤ 4000) : s_l10Effect m x = some (effectOf m x) := by
 unfold s_l10Effect effectOf
 rw [j5 (by omega), j5 (by omega)]
 by_cases hn : namedOp x
 ·obtain ⟨h1, h2⟩ := h hn
  rw [C4 (d := default) h1 h2]
  unfold namedOp at hn
  rcases hn with hn | hn | hn | hn <;> simp [hn]
 ·unfold namedOp at hn
  simp only [not_or] at hn
  obtain ⟨n1, n2, n3, n4⟩ := hn
  clear h
  rcases K4 x.op with h | h | h | h | h | h | h | h | h | h | h | h | h | h | h | h | h | h | h | h | h <;> first | exact absurd h n1 | exact absurd h n2 | exact absurd h n3 | exact absurd h n4 | simp [h]
theorem prims_len {l : List (List UInt8)} (h : i_PrimitiveNames = some l) : (l.length : Int) = 14 := by
 simp only [i_PrimitiveNames, Option.some.injEq] at h; subst h; rfl
theorem s_prims : s_PrimitiveNames = i_PrimitiveNames := rfl
theorem bN : ∃ l, i_PrimitiveNames = some l ∧ (l.length : Int) = 14 := ⟨_, rfl, rfl⟩
theorem aR (m : PImage) (c : PCode) (k : Int) (x : PInstr) (ha : 0 ≤ x.a) (hk : k ≤ m.codes.length) : i_operandOk m c k x = some (fitsOf false m c k x) := by
 obtain ⟨l, hl, hl2⟩ := bN
 unfold i_operandOk i_operandOk_J1 fitsOf
 rw [hl]
 simp only [g8, hl2]
 by_cases hx : x.a < k
 ·rw [C4 (d := default) ha (by omega)]
  simp only [g8, hx, if_true, decide_true, Bool.true_and]
  clear hl hl2
  by_cases h9 : c.params ≤ x.a <;> rcases K4 x.op with h | h | h | h | h | h | h | h | h | h | h | h | h | h | h | h | h | h | h | h | h <;> simp [h, h9]
 ·simp only [hx, if_false, decide_false, Bool.false_and]
  clear hl hl2
  by_cases h9 : c.params ≤ x.a <;> rcases K4 x.op with h | h | h | h | h | h | h | h | h | h | h | h | h | h | h | h | h | h | h | h | h <;> simp [h, h9]
theorem fV (m : PImage) (k : Nat) (x : PInstr) (ha : 0 ≤ x.a) (hk : k < m.codes.length) (hs : 0 ≤ (m.codes.getD k default).slots ∧ (m.codes.getD k default).slots ≤ 500) : s_l10Fits m k x = some (fitsOf true m (m.codes.getD k default) k x) := by
 obtain ⟨l, hl, hl2⟩ := bN
 unfold s_l10Fits s_l10Fits_J1 fitsOf
 rw [z2 (d := default) hk, s_prims, hl]
 simp only [g8, hl2]
 generalize m.codes.getD k default = c at hs ⊢
 rw [j5 (by omega), D5]
 simp only [g8]
 have e : inside x.a c.params (c.slots - 1) = (decide (c.params ≤ x.a) && decide (x.a < c.slots)) := by
  unfold inside; congr 1; exact decide_eq_decide.2 (by omega)
 rw [e]
 by_cases hx : x.a < k
 ·rw [C4 (d := default) ha (by omega)]
  simp only [g8, hx, if_true, decide_true, Bool.true_and]
  clear hl hl2
  rcases K4 x.op with h | h | h | h | h | h | h | h | h | h | h | h | h | h | h | h | h | h | h | h | h <;> simp [h]
 ·simp only [hx, if_false, decide_false, Bool.false_and]
  clear hl hl2
  rcases K4 x.op with h | h | h | h | h | h | h | h | h | h | h | h | h | h | h | h | h | h | h | h | h <;> simp [h]
theorem i_codeOk_eq (m : PImage) (k : Nat) (hm : m.small) (hk : k < m.codes.length) : i_codeOk m k = some (codeOKs false m k) := by
 have hc := hm.2 _ (cL (d := default) hk)
 unfold i_codeOk
 rw [z2 (d := default) hk, codeOK_c]
 simp only [g8]
 generalize m.codes.getD k default = c at hc ⊢
 unfold codeOKc headOK inside
 have hL : itr (i_codeOk_L1 m k c) LF 0 = some (c.instrs.all fun x => instrOK x && fitsOf false m c k x) := by
  rw [L5 c.instrs (fun x => instrOK x && fitsOf false m c k x) (some true) (some false) (by have := hc.1; omega) (fun go i hi => ?_) (fun go => ?_)]
  ·cases (c.instrs.all fun x => instrOK x && fitsOf false m c k x) <;> rfl
  ·show i_codeOk_L1b m k c go i = _
   unfold i_codeOk_L1b
   have := hc.1
   rw [if_pos (by omega), o6 hi, g8, R9 _ (hc.2 _ (List.getElem_mem hi)), g8]
   cases h1 : instrOK c.instrs[i]
   ·rfl
   ·rw [aR m c k _ (N6 h1).1 (by omega), g8, if_pos rfl, j5 (by omega), Bool.true_and]
  ·show i_codeOk_L1b m k c go _ = _
   unfold i_codeOk_L1b
   rw [if_neg (by omega)]
 rw [hL]
 by_cases h1 : c.params < 0
 ·have : decide (0 ≤ c.params) = false := by simp; omega
  simp [h1, this]
 ·have h1' : decide (0 ≤ c.params) = true := by simp; omega
  by_cases h2 : c.params > 8
  ·have : decide (c.params ≤ 8) = false := by simp; omega
   simp [h1, h2, this]
  ·have h2' : decide (c.params ≤ 8) = true := by simp; omega
   by_cases h3 : c.slots < c.params
   ·have : decide (c.params ≤ c.slots) = false := by simp; omega
    simp [h1, h2, h3, this]
   ·have h3' : decide (c.params ≤ c.slots) = true := by simp; omega
    by_cases h4 : c.slots > 500
    ·have : decide (c.slots ≤ 500) = false := by simp; omega
     simp [h1, h2, h3, h4, this]
    ·have h4' : decide (c.slots ≤ 500) = true := by simp; omega
     by_cases h5 : c.captures < 0
     ·have : decide (0 ≤ c.captures) = false := by simp; omega
      simp [h1, h2, h3, h4, h5, this]
     ·have h5' : decide (0 ≤ c.captures) = true := by simp; omega
      by_cases h6 : c.captures > 500
      ·have : decide (c.captures ≤ 500) = false := by simp; omega
       simp [h1, h2, h3, h4, h5, h6, this]
      ·have h6' : decide (c.captures ≤ 500) = true := by simp; omega
       by_cases h7 : (c.instrs.length : Int) < 1
       ·have : decide (1 ≤ (c.instrs.length : Int)) = false := by simp; omega
        simp [h1, h2, h3, h4, h5, h6, h7, this]
       ·have h7' : decide (1 ≤ (c.instrs.length : Int)) = true := by simp; omega
        by_cases h8 : (c.instrs.length : Int) > 4000
        ·have : decide ((c.instrs.length : Int) ≤ 4000) = false := by simp; omega
         simp [h1, h2, h3, h4, h5, h6, h7, h8, this]
        ·have h8' : decide ((c.instrs.length : Int) ≤ 4000) = true := by simp; omega
         simp only [h1, h2, h3, h4, h5, h6, h7, h8, h1', h2', h3', h4', h5', h6', h7', h8', if_false, Bool.and_self, Bool.true_and]
theorem P9 {c : PCode} (h : headOK c = true) : (0 ≤ c.slots ∧ c.slots ≤ 500) ∧ (0 ≤ c.captures ∧ c.captures ≤ 500) ∧ 1 ≤ c.instrs.length ∧ c.instrs.length ≤ 4000 := by
 unfold headOK inside at h
 simp only [Bool.and_eq_true, decide_eq_true_eq] at h
 omega
theorem fU (m : PImage) (k : Nat) (hm : m.small) (hk : k < m.codes.length) : s_l10Code m k = some (codeOKs true m k) := by
 have hc := hm.2 _ (cL (d := default) hk)
 unfold s_l10Code
 rw [z2 (d := default) hk, codeOK_c]
 simp only [g8, D5]
 have hf := fun x => fV m k x
 generalize m.codes.getD k default = c at hc hf ⊢
 unfold codeOKc headOK
 cases h1 : inside c.params 0 8
 ·rfl
 cases h2 : inside c.slots c.params 500
 ·rfl
 cases h3 : inside c.captures 0 500
 ·rfl
 cases h4 : inside c.instrs.length 1 4000
 ·rfl
 have hh : headOK c = true := by unfold headOK; rw [h1, h2, h3, h4]; rfl
 simp only [if_true, Bool.true_and]
 rw [L5 c.instrs (fun x => instrOK x && fitsOf true m c k x) (some true) (some false) (by have := hc.1; omega) (fun go i hi => ?_) (fun go => ?_)]
 ·cases (c.instrs.all fun x => instrOK x && fitsOf true m c k x) <;> rfl
 ·show s_l10Code_L1b m k c go i = _
  unfold s_l10Code_L1b
  have := hc.1
  rw [if_pos (by omega), o6 hi, g8, O7 _ (hc.2 _ (List.getElem_mem hi)), g8]
  cases h5 : instrOK c.instrs[i]
  ·rfl
  ·rw [hf _ (N6 h5).1 hk (P9 hh).1, g8, if_pos rfl, j5 (by omega), Bool.true_and]
 ·show s_l10Code_L1b m k c go _ = _
  unfold s_l10Code_L1b
  rw [if_neg (by omega)]
structure InsOK (m : PImage) (x : PInstr) : Prop where
 a : 0 ≤ x.a ∧ x.a ≤ 4000
 named : namedOp x → x.a < m.codes.length
 take : 0 ≤ (effectOf m x).1 ∧ (effectOf m x).1 ≤ 4001
theorem fits_named {s : Bool} {m : PImage} {c : PCode} {k : Int} {x : PInstr} (h : fitsOf s m c k x = true) (hn : namedOp x) : x.a < k := by
 unfold fitsOf at h
 unfold namedOp at hn
 rcases hn with hn | hn | hn | hn <;> simp [hn] at h <;> omega
theorem cR {m : PImage} {k : Nat} (hk : k < m.codes.length) (h : ∀ i, i ≤ k → codeOKs false m i = true) : ∀ x ∈ (m.codes.getD k default).instrs, InsOK m x := fun x hx => by
 have h0 := h k (Nat.le_refl _)
 unfold codeOKs at h0
 simp only [Bool.and_eq_true, List.all_eq_true] at h0
 have h1 := h0.2 x hx
 have h2 := N6 h1.1
 have hn : namedOp x → x.a < k := fits_named h1.2
 refine ⟨⟨h2.1, h2.2.1⟩, fun hq => by have := hn hq; omega, ?_⟩
 unfold effectOf
 repeat' split
 all_goals try (dsimp only; omega)
 rename_i hq
 have hq' := hn hq
 have h3 := h x.a.toNat (by omega)
 unfold codeOKs at h3
 simp only [Bool.and_eq_true] at h3
 have := (P9 h3.1).2.1
 dsimp only
 omega
def putAll (i len v : Int) : List Int → List Int → Option (List Int)
 | [], out => some out
 | k :: r, out => match putD i len v k out with | some o => putAll i len v r o | none => none
def dres : Option (List Int) → List Int × Bool
 | some o => (o, true)
 | none => ([], false)
def nextOf (i : Int) (x : PInstr) : List Int := if x.op = 14 ∨ x.op = 13 then [] else if x.op = 15 then [x.a] else if x.op = 16 then [i + 1, x.a] else [i + 1]
theorem N9 (i len v : Int) (x : PInstr) (out : List Int) (h : x.op = 14 ∨ x.op = 13 → v = 0) : nextD i len v x out = putAll i len v (nextOf i x) out := by
 unfold nextD nextOf
 split
 ·rename_i hx; rw [if_pos (h hx)]; rfl
 ·split
  ·simp only [putAll]; cases putD i len v x.a out <;> rfl
  ·split
   ·simp only [putAll]
    cases h1 : putD i len v (i + 1) out with
    | none => rfl
    | some o => simp only; cases putD i len v x.a o <;> rfl
   ·simp only [putAll]; cases putD i len v (i + 1) out <;> rfl
theorem F5 {i len v k : Int} {out : List Int} (h : k ≤ i ∨ len ≤ k ∨ (0 ≤ at0 out k ∧ ¬ at0 out k = v)) : putD i len v k out = none := if_pos h
theorem O4 {i len v k : Int} {out : List Int} (h : ¬ (k ≤ i ∨ len ≤ k ∨ (0 ≤ at0 out k ∧ ¬ at0 out k = v))) : putD i len v k out = some (out.set k.toNat v) := if_neg h
theorem dC {out : List Int} {k : Int} (h : 0 ≤ k) (h2 : k < out.length) : nth out k = some (at0 out k) := C4 h h2
theorem i_next_eq (c : PCode) (i : Int) (go : Int × List Int → Option (List Int × Bool)) (tl : Int × Int) (d : Int) (next : List Int) (hi : 0 ≤ i) (hn : next.length ≤ 1000) (out0 : List Int) (h0 : out0.length = c.instrs.length) :
 itr (i_depthsOf_L5 c i go tl d next) LF (0, out0) = match putAll i c.instrs.length ((d - tl.1) + tl.2) next out0 with | some o => i_depthsOf_J3 i go o | none => some ([], false) := by
 rw [u5 (L := i_depthsOf_L5 c i go tl d next) next.length (fun _ o => o.length = c.instrs.length) (fun j o => match putAll i c.instrs.length ((d - tl.1) + tl.2) (next.drop j) o with | some o => i_depthsOf_J3 i go o | none => some ([], false)) (by omega) (fun go2 j o hj ho hgo => ?_) (fun go2 o ho => ?_) h0]
 ·rw [List.drop_zero]
 ·show i_depthsOf_L5b c i go tl d next go2 j o = _
  unfold i_depthsOf_L5b i_depthsOf_J6
  rw [if_pos (by omega), o6 hj, g8, List.drop_eq_getElem_cons hj]
  simp only [putAll]
  generalize next[j] = k
  by_cases h1 : k ≤ i
  ·rw [if_pos h1, F5 (.inl h1)]; rfl
  ·rw [if_neg h1]
   by_cases h2 : k ≥ c.instrs.length
   ·rw [if_pos h2, F5 (.inr (.inl h2))]; rfl
   ·rw [if_neg h2, dC (by omega) (by omega), g8, g8, g8, j5 (by omega)]
    have hg := hgo (o.set k.toNat ((d - tl.1) + tl.2)) (by rw [List.length_set, ho])
    by_cases h3 : at0 o k ≥ 0
    ·rw [if_pos h3]
     by_cases h4 : at0 o k = (d - tl.1) + tl.2
     ·rw [O4 (by omega), h4, hg]; simp
     ·rw [F5 (.inr (.inr ⟨h3, h4⟩))]; simp [h4]
    ·rw [if_neg h3, O4 (by omega), hg]; simp
 ·show i_depthsOf_L5b c i go tl d next go2 _ o = _
  unfold i_depthsOf_L5b
  rw [if_neg (by omega), List.drop_length]; rfl
theorem s_next_eq (c : PCode) (i : Int) (go : Int × List Int → Option (List Int × Bool)) (tl : Int × Int) (d : Int) (next : List Int) (hi : 0 ≤ i) (hn : next.length ≤ 1000) (hv : I64 ((d - tl.1) + tl.2)) (out0 : List Int) (h0 : out0.length = c.instrs.length) :
 itr (s_l10Depths_L6 c i go tl d next) LF (0, out0) = match putAll i c.instrs.length ((d - tl.1) + tl.2) next out0 with | some o => s_l10Depths_J3 i go o | none => some ([], false) := by
 rw [u5 (L := s_l10Depths_L6 c i go tl d next) next.length (fun _ o => o.length = c.instrs.length) (fun j o => match putAll i c.instrs.length ((d - tl.1) + tl.2) (next.drop j) o with | some o => s_l10Depths_J3 i go o | none => some ([], false)) (by omega) (fun go2 j o hj ho hgo => ?_) (fun go2 o ho => ?_) h0]
 ·rw [List.drop_zero]
 ·show s_l10Depths_L6b c i go tl d next go2 j o = _
  unfold s_l10Depths_L6b s_l10Depths_J7
  rw [if_pos (by omega), o6 hj, g8, List.drop_eq_getElem_cons hj]
  simp only [putAll]
  generalize next[j] = k
  by_cases h1 : k ≤ i
  ·rw [if_pos h1, F5 (.inl h1)]; rfl
  ·rw [if_neg h1]
   by_cases h2 : k ≥ c.instrs.length
   ·rw [if_pos h2, F5 (.inr (.inl h2))]; rfl
   ·rw [if_neg h2, dC (by omega) (by omega), g8, g8, g8, j5 hv, j5 hv, j5 (by omega)]
    have hg := hgo (o.set k.toNat ((d - tl.1) + tl.2)) (by rw [List.length_set, ho])
    by_cases h3 : at0 o k ≥ 0
    ·rw [if_pos h3]
     by_cases h4 : at0 o k = (d - tl.1) + tl.2
     ·rw [O4 (by omega), h4, hg]; simp
     ·rw [F5 (.inr (.inr ⟨h3, h4⟩))]; simp [h4]
    ·rw [if_neg h3, O4 (by omega), hg]; simp
 ·show s_l10Depths_L6b c i go tl d next go2 _ o = _
  unfold s_l10Depths_L6b
  rw [if_neg (by omega), List.drop_length]; rfl
def runK (m : PImage) (len : Int) (i : Nat) (xs : List PInstr) : Option (List Int) → Option (List Int)
 | some o => runD m len i xs o
 | none => none
theorem fQ (m : PImage) (len : Int) (i : Nat) (x : PInstr) (r : List PInstr) (out : List Int) : runD m len i (x :: r) out = runK m len (i + 1) r (stepD m len i x out) := by
 rw [runD]; unfold runK; cases stepD m len i x out <;> rfl
theorem bL (i : Int) (x : PInstr) : (nextOf i x).length ≤ 2 := by
 unfold nextOf
 repeat' split
 all_goals simp
theorem eff_ret {m : PImage} {x : PInstr} (h : x.op = 14 ∨ x.op = 13) : (effectOf m x).2 = 0 := by
 unfold effectOf
 rcases h with h | h <;> simp [h]
theorem i_run_eq (m : PImage) (c : PCode) (hc : c.instrs.length ≤ 4000) (hx : ∀ x ∈ c.instrs, InsOK m x) (out0 : List Int) (h0 : out0.length = c.instrs.length) (hs : small500 out0) :
 itr (i_depthsOf_L2 m c) LF (0, out0) = some (dres (runD m c.instrs.length 0 c.instrs out0)) := by
 rw [u5 (L := i_depthsOf_L2 m c) c.instrs.length (fun _ o => o.length = c.instrs.length ∧ small500 o) (fun i o => some (dres (runD m c.instrs.length i (c.instrs.drop i) o))) (by omega) (fun go i o hi ho hgo => ?_) (fun go o ho => ?_) ⟨h0, hs⟩]
 ·rw [List.drop_zero]
 ·show i_depthsOf_L2b m c go i o = _
  unfold i_depthsOf_L2b
  have hX := hx _ (List.getElem_mem hi)
  have h5 := aF ho.2 (i : Int)
  have hep := bE m c.instrs[i]
  rw [if_pos (by omega), o6 hi, g8, dC (by omega) (by omega), g8, List.drop_eq_getElem_cons hi]
  rw [fQ]
  unfold stepD
  have hJ : ∀ o', i_depthsOf_J3 i go o' = go ((i : Int) + 1, o') := fun o' => by unfold i_depthsOf_J3; rw [j5 (by omega)]
  rw [i_effect_eq m _ (fun hq => ⟨hX.a.1, hX.named hq⟩) hX.a, g8, g8, g8]
  have hr := @eff_ret m c.instrs[i]
  generalize c.instrs[i] = x at hX hep hr ⊢
  have ht := hX.take
  by_cases h1 : at0 o i < 0
  ·rw [if_pos h1, if_pos h1, hJ, hgo o ho]; rfl
  ·rw [if_neg h1, if_neg h1]
   by_cases h2 : (effectOf m x).1 > at0 o i
   ·rw [if_pos h2, if_pos h2]; rfl
   ·rw [if_neg h2, if_neg h2, j5 (by omega), j5 (by omega)]
    by_cases h3 : (at0 o i - (effectOf m x).1) + (effectOf m x).2 > 500
    ·rw [if_pos h3, if_pos h3]; rfl
    ·rw [if_neg h3, if_neg h3]
     have hnx : ∀ next : List Int, next.length ≤ 2 → i_depthsOf_J4 c i o go (effectOf m x) (at0 o i) next = match putAll i c.instrs.length ((at0 o i - (effectOf m x).1) + (effectOf m x).2) next o with | some o' => go ((i : Int) + 1, o') | none => some ([], false) := fun next hl => by
      unfold i_depthsOf_J4
      rw [i_next_eq c i go _ _ next (by omega) (by omega) o ho.1]
      cases putAll i c.instrs.length ((at0 o i - (effectOf m x).1) + (effectOf m x).2) next o with
      | none => rfl
      | some o' => exact hJ o'
     have hfin : (x.op = 14 ∨ x.op = 13 → (at0 o i - (effectOf m x).1) + (effectOf m x).2 = 0) → i_depthsOf_J4 c i o go (effectOf m x) (at0 o i) (nextOf i x) = some (dres (runK m c.instrs.length (i + 1) (c.instrs.drop (i + 1)) (nextD i c.instrs.length ((at0 o i - (effectOf m x).1) + (effectOf m x).2) x o))) := fun hv => by
      rw [hnx _ (bL _ _), N9 _ _ _ _ _ hv]
      cases hp : putAll i c.instrs.length ((at0 o i - (effectOf m x).1) + (effectOf m x).2) (nextOf i x) o with
      | none => rfl
      | some o' =>
       rw [← N9 _ _ _ _ _ hv] at hp
       show go ((i : Int) + 1, o') = some (dres (runD m c.instrs.length (i + 1) (c.instrs.drop (i + 1)) o'))
       rw [hgo o' ⟨by rw [fC hp]; exact ho.1, Z0 ho.2 (by omega) hp⟩]
     unfold i_depthsOf_J7
     by_cases h4 : x.op = 14 ∨ x.op = 13
     ·have e : nextOf i x = [] := by unfold nextOf; rw [if_pos h4]
      have : (if x.op = 14 then true else decide (x.op = 13)) = true := by rcases h4 with h4 | h4 <;> simp [h4]
      by_cases h5 : (at0 o i - (effectOf m x).1) + (effectOf m x).2 = 0
      ·have hq := hfin (fun _ => h5)
       rw [e] at hq
       rcases h4 with h4 | h4
       ·simp only [h4, if_true, h5]; simp only [h4, h5] at hq; exact hq
       ·simp only [h4, if_true, h5]; simp only [h4, h5] at hq; simpa using hq
      ·have hn : nextD i c.instrs.length ((at0 o i - (effectOf m x).1) + (effectOf m x).2) x o = none := by unfold nextD; rw [if_pos h4, if_neg h5]
       rw [hn]
       rcases h4 with h4 | h4 <;> simp [h4, h5, dres, runK]
     ·have hq := hfin (fun h => absurd h h4)
      simp only [not_or] at h4
      rw [if_neg h4.1, if_neg (by simp [h4.2])]
      unfold nextOf at hq
      rw [if_neg (by simp [h4])] at hq
      rw [← hq]
      by_cases h6 : x.op = 15
      ·rw [if_pos h6, if_pos h6]
      ·rw [if_neg h6, if_neg h6, j5 (by omega), j5 (by omega)]
       by_cases h7 : x.op = 16
       ·rw [if_pos h7, if_pos h7]
       ·rw [if_neg h7, if_neg h7]
 ·show i_depthsOf_L2b m c go _ o = _
  unfold i_depthsOf_L2b
  rw [if_neg (by omega), List.drop_length]; rfl
end Go.Abs

namespace Go.Abs
theorem s_run_eq (m : PImage) (c : PCode) (hc : c.instrs.length ≤ 4000) (hx : ∀ x ∈ c.instrs, InsOK m x) (out0 : List Int) (h0 : out0.length = c.instrs.length) (hs : small500 out0) :
 itr (s_l10Depths_L2 m c) LF (0, out0) = some (dres (runD m c.instrs.length 0 c.instrs out0)) := by
 rw [u5 (L := s_l10Depths_L2 m c) c.instrs.length (fun _ o => o.length = c.instrs.length ∧ small500 o) (fun i o => some (dres (runD m c.instrs.length i (c.instrs.drop i) o))) (by omega) (fun go i o hi ho hgo => ?_) (fun go o ho => ?_) ⟨h0, hs⟩]
 ·rw [List.drop_zero]
 ·show s_l10Depths_L2b m c go i o = _
  unfold s_l10Depths_L2b
  have hX := hx _ (List.getElem_mem hi)
  have h5 := aF ho.2 (i : Int)
  have hep := bE m c.instrs[i]
  rw [if_pos (by omega), o6 hi, g8, dC (by omega) (by omega), g8, List.drop_eq_getElem_cons hi]
  rw [fQ]
  unfold stepD
  have hJ : ∀ o', s_l10Depths_J3 i go o' = go ((i : Int) + 1, o') := fun o' => by unfold s_l10Depths_J3; rw [j5 (by omega)]
  rw [aX m _ (fun hq => ⟨hX.a.1, hX.named hq⟩) hX.a, g8, g8]
  have hr := @eff_ret m c.instrs[i]
  generalize c.instrs[i] = x at hX hep hr ⊢
  have ht := hX.take
  by_cases h1 : at0 o i < 0
  ·rw [if_pos h1, if_pos h1, hJ, hgo o ho]; rfl
  ·rw [if_neg h1, if_neg h1, j5 (by omega)]
   have hJ4 : s_l10Depths_J4 c i o go x (effectOf m x) (at0 o i) true = some ([], false) := rfl
   by_cases h2 : (at0 o i - (effectOf m x).1) < 0
   ·rw [if_pos h2, if_pos (show at0 o i < (effectOf m x).1 by omega), hJ4]; rfl
   ·rw [if_neg h2, if_neg (show ¬ at0 o i < (effectOf m x).1 by omega), j5 (by omega)]
    by_cases h3 : (at0 o i - (effectOf m x).1) + (effectOf m x).2 > 500
    ·rw [if_pos h3, if_pos h3, hJ4]; rfl
    ·rw [if_neg h3, if_neg h3]
     have hnx : ∀ next : List Int, next.length ≤ 2 → s_l10Depths_J5 c i o go (effectOf m x) (at0 o i) next = match putAll i c.instrs.length ((at0 o i - (effectOf m x).1) + (effectOf m x).2) next o with | some o' => go ((i : Int) + 1, o') | none => some ([], false) := fun next hl => by
      unfold s_l10Depths_J5
      rw [s_next_eq c i go _ _ next (by omega) (by omega) ⟨by omega, by omega⟩ o ho.1]
      cases putAll i c.instrs.length ((at0 o i - (effectOf m x).1) + (effectOf m x).2) next o with
      | none => rfl
      | some o' => exact hJ o'
     have hfin : (x.op = 14 ∨ x.op = 13 → (at0 o i - (effectOf m x).1) + (effectOf m x).2 = 0) → s_l10Depths_J5 c i o go (effectOf m x) (at0 o i) (nextOf i x) = some (dres (runK m c.instrs.length (i + 1) (c.instrs.drop (i + 1)) (nextD i c.instrs.length ((at0 o i - (effectOf m x).1) + (effectOf m x).2) x o))) := fun hv => by
      rw [hnx _ (bL _ _), N9 _ _ _ _ _ hv]
      cases hp : putAll i c.instrs.length ((at0 o i - (effectOf m x).1) + (effectOf m x).2) (nextOf i x) o with
      | none => rfl
      | some o' =>
       rw [← N9 _ _ _ _ _ hv] at hp
       show go ((i : Int) + 1, o') = some (dres (runD m c.instrs.length (i + 1) (c.instrs.drop (i + 1)) o'))
       rw [hgo o' ⟨by rw [fC hp]; exact ho.1, Z0 ho.2 (by omega) hp⟩]
     have hf4 : s_l10Depths_J4 c i o go x (effectOf m x) (at0 o i) false = s_l10Depths_J5 c i o go (effectOf m x) (at0 o i) (nextOf i x) := by
      unfold s_l10Depths_J4 s_l10Depths_J8 nextOf
      rw [j5 (by omega)]
      by_cases h14 : x.op = 14
      ·simp [h14]
      ·by_cases h13 : x.op = 13
       ·simp [h13]
       ·by_cases h15 : x.op = 15
        ·simp [h15]
        ·by_cases h16 : x.op = 16
         ·rw [j5 (by simp)]; simp [h16]
         ·rw [j5 (by simp)]; simp [h14, h13, h15, h16]
     by_cases h4 : x.op = 14 ∨ x.op = 13
     ·have hz := hr h4
      by_cases h5' : (at0 o i - (effectOf m x).1) = 0
      ·have hq := hfin (fun _ => by omega)
       rcases h4 with h4 | h4
       ·have h13 : ¬ x.op = 13 := by omega
        rw [if_pos h4, if_pos h5', if_neg h13, hf4]; exact hq
       ·have h14 : ¬ x.op = 14 := by omega
        rw [if_neg h14, if_pos h4, h5']
        simp only [decide_true, Bool.not_true]
        rw [← h5', hf4]; exact hq
      ·have hn : nextD i c.instrs.length ((at0 o i - (effectOf m x).1) + (effectOf m x).2) x o = none := by unfold nextD; rw [if_pos h4, if_neg (by omega)]
       rw [hn]
       rcases h4 with h4 | h4
       ·rw [if_pos h4, if_neg h5', hJ4]; rfl
       ·have h14 : ¬ x.op = 14 := by omega
        rw [if_neg h14, if_pos h4]
        simp only [h5', decide_false, Bool.not_false]
        rfl
     ·have hq := hfin (fun h => absurd h h4)
      simp only [not_or] at h4
      rw [if_neg h4.1, if_neg h4.2, hf4]; exact hq
 ·show s_l10Depths_L2b m c go _ o = _
  unfold s_l10Depths_L2b
  rw [if_neg (by omega), List.drop_length]; rfl
theorem fillM_0 (n : Nat) : fillM n 0 = List.replicate n 0 := by simp [fillM]
theorem aG (n : Nat) : small500 ((List.replicate n (-1)).set 0 0) := T3 (fun v hv => by rw [List.eq_of_mem_replicate hv]; omega) ⟨by decide, by decide⟩ _
theorem cQ (m : PImage) (k : Nat) (hk : k < m.codes.length) (h1 : 1 ≤ (m.codes.getD k default).instrs.length) (h2 : (m.codes.getD k default).instrs.length ≤ 4000) (hx : ∀ x ∈ (m.codes.getD k default).instrs, InsOK m x) :
 i_depthsOf m k = some (dres (depthsOf m k)) := by
 unfold i_depthsOf depthsOf
 rw [z2 (d := default) hk, g8]
 generalize m.codes.getD k default = c at h1 h2 hx ⊢
 rw [j5 (by omega), Int.toNat_natCast]
 rw [u5 (L := i_depthsOf_L1 m c) c.instrs.length (fun i o => o = fillM c.instrs.length i) (fun _ _ => some (dres (runD m c.instrs.length 0 c.instrs ((List.replicate c.instrs.length (-1)).set 0 0)))) (by omega) (fun go i o hi ho hgo => ?_) (fun go o ho => ?_) (fillM_0 _).symm]
 ·show i_depthsOf_L1b m c go i o = _
  unfold i_depthsOf_L1b
  subst ho
  have hl := M9 (n := c.instrs.length) (i := i) (by omega)
  rw [if_pos (by simp; omega), z2 (d := 0) (by omega), g8, j5 (by omega), Int.toNat_natCast, eP hi, hgo _ rfl]
 ·show i_depthsOf_L1b m c go _ o = _
  unfold i_depthsOf_L1b
  subst ho
  have hl := M9 (n := c.instrs.length) (i := c.instrs.length) (by omega)
  rw [if_neg (by simp), show (0 : Int) = ((0 : Nat) : Int) from rfl, z2 (d := 0) (by omega), g8, eO]
  exact i_run_eq m c h2 hx _ (by simp) (aG _)
theorem aW (m : PImage) (k : Nat) (hk : k < m.codes.length) (h1 : 1 ≤ (m.codes.getD k default).instrs.length) (h2 : (m.codes.getD k default).instrs.length ≤ 4000) (hx : ∀ x ∈ (m.codes.getD k default).instrs, InsOK m x) :
 s_l10Depths m k = some (dres (depthsOf m k)) := by
 unfold s_l10Depths depthsOf
 rw [z2 (d := default) hk, g8]
 generalize m.codes.getD k default = c at h1 h2 hx ⊢
 rw [j5 (by omega), Int.toNat_natCast]
 rw [u5 (L := s_l10Depths_L1 m c) c.instrs.length (fun i o => o = fillM c.instrs.length i) (fun _ _ => some (dres (runD m c.instrs.length 0 c.instrs ((List.replicate c.instrs.length (-1)).set 0 0)))) (by omega) (fun go i o hi ho hgo => ?_) (fun go o ho => ?_) (fillM_0 _).symm]
 ·show s_l10Depths_L1b m c go i o = _
  unfold s_l10Depths_L1b
  subst ho
  have hl := M9 (n := c.instrs.length) (i := i) (by omega)
  rw [if_pos (by simp; omega), z2 (d := 0) (by omega), g8, j5 (by omega), Int.toNat_natCast, eP hi, hgo _ rfl]
 ·show s_l10Depths_L1b m c go _ o = _
  unfold s_l10Depths_L1b
  subst ho
  have hl := M9 (n := c.instrs.length) (i := c.instrs.length) (by omega)
  rw [if_neg (by simp), if_neg (by omega), show (0 : Int) = ((0 : Nat) : Int) from rfl, z2 (d := 0) (by omega), g8, eO]
  exact s_run_eq m c h2 hx _ (by simp) (aG _)
theorem cD {s : Bool} {m : PImage} {k : Nat} (h : codeOKs s m k = true) : 1 ≤ (m.codes.getD k default).instrs.length ∧ (m.codes.getD k default).instrs.length ≤ 4000 := by
 unfold codeOKs at h
 simp only [Bool.and_eq_true] at h
 exact (P9 h.1).2.2
def stackOf (m : PImage) (code : Int) : List Int × Bool :=
 if code < 0 ∨ m.codes.length ≤ code then ([], false)
 else if (List.range (code.toNat + 1)).all (fun k => codeOKs false m k) then dres (depthsOf m code.toNat) else ([], false)
theorem all_range_succ (n : Nat) (p : Nat → Bool) : (List.range (n + 1)).all p = ((List.range n).all p && p n) := by
 rw [List.range_succ, List.all_append]; simp
def bumpI (t : List Int) (x : PInstr) : List Int := if namedOp x then t.set x.a.toNat (t.getD x.a.toNat 0 + 1) else t
def bumpIs (xs : List PInstr) (t : List Int) : List Int := xs.foldl bumpI t
def bumpCs (cs : List PCode) (t : List Int) : List Int := cs.foldl (fun t c => bumpIs c.instrs t) t
def totalOf (cs : List PCode) : Int := cs.foldl (fun n c => n + (c.instrs.length : Int)) 0
def codesOK (m : PImage) : Bool := (List.range m.codes.length).all fun k => codeOKs false m k && (depthsOf m k).isSome
def onceOK (m : PImage) : Bool := ((bumpCs m.codes (List.replicate m.codes.length 0)).take (m.codes.length - 1)).all fun n => decide (n = 1)
def isImg (m : PImage) (captures : Int) : Bool :=
 inside m.codes.length 1 1500 && (decide (m.main = (m.codes.length : Int) - 1) && (decide ((m.codes.getD (m.codes.length - 1) default).params = 0) && (decide ((m.codes.getD (m.codes.length - 1) default).captures = captures) &&
  (codesOK m && (decide (totalOf m.codes ≤ 16000) && onceOK m)))))
theorem V5 (t : List Int) (x : PInstr) : (bumpI t x).length = t.length := by unfold bumpI; split <;> simp
theorem P6 : ∀ (xs : List PInstr) (t : List Int), (bumpIs xs t).length = t.length
 | [], t => rfl
 | x :: xs, t => by show (bumpIs xs (bumpI t x)).length = _; rw [P6 xs, V5]
def low (b : Int) (t : List Int) : Prop := ∀ v ∈ t, 0 ≤ v ∧ v ≤ b
theorem low_get {b : Int} {t : List Int} (h : low b t) (hb : 0 ≤ b) (i : Nat) : 0 ≤ t.getD i 0 ∧ t.getD i 0 ≤ b := by
 by_cases hi : i < t.length
 ·rw [List.getD, List.getElem?_eq_getElem hi]; exact h _ (List.getElem_mem hi)
 ·rw [List.getD, List.getElem?_eq_none (by omega)]; simp; exact hb
theorem V6 {b : Int} {t : List Int} (h : low b t) (hb : 0 ≤ b) (x : PInstr) : low (b + 1) (bumpI t x) := by
 unfold bumpI
 split
 ·intro v hv
  have hg := low_get h hb x.a.toNat
  rcases List.mem_or_eq_of_mem_set hv with hv | rfl
  ·have := h v hv; omega
  ·omega
 ·intro v hv; have := h v hv; omega
theorem fB (op : Int) : i_namesCode op = some (decide (op = 11 ∨ op = 18 ∨ op = 19 ∨ op = 20)) := by
 unfold i_namesCode
 by_cases h1 : op = 11 <;> by_cases h2 : op = 18 <;> by_cases h3 : op = 19 <;> simp [h1, h2, h3]
theorem eY (op : Int) : s_l10Inside op = some (decide (op = 11 ∨ op = 18 ∨ op = 19 ∨ op = 20)) := by
 unfold s_l10Inside
 by_cases h1 : op = 11 <;> by_cases h2 : op = 18 <;> by_cases h3 : op = 19 <;> simp [h1, h2, h3]
def InsOK' (n : Nat) (x : PInstr) : Prop := namedOp x → 0 ≤ x.a ∧ x.a < n
theorem i_count_eq (total x6 : Int) (go8 : Int × Int × List Int → Option Bool) (c : PCode) (n : Nat) (b : Int) (hb : 0 ≤ b ∧ b ≤ 1000000000) (hx6 : 0 ≤ x6 ∧ x6 ≤ 2000) (hc : c.instrs.length ≤ 4000) (hx : ∀ x ∈ c.instrs, InsOK' n x) (t : List Int) (ht : t.length = n) (hlow : low b t) :
 itr (i_IsImage_L2 total x6 go8 c) LF (0, t) = go8 (total + (c.instrs.length : Int), x6 + 1, bumpIs c.instrs t) := by
 rw [u5 (L := i_IsImage_L2 total x6 go8 c) c.instrs.length (fun i t => t.length = n ∧ low (b + i) t) (fun i t => go8 (total + (c.instrs.length : Int), x6 + 1, bumpIs (c.instrs.drop i) t)) (by omega) (fun go i t hi ht hgo => ?_) (fun go t ht => ?_) ⟨ht, by simpa using hlow⟩]
 ·rw [List.drop_zero]
 ·show i_IsImage_L2b total x6 go8 c go i t = _
  unfold i_IsImage_L2b i_IsImage_J3
  have hX := hx _ (List.getElem_mem hi)
  rw [if_pos (by omega), o6 hi, g8, fB, g8, j5 (by omega), List.drop_eq_getElem_cons hi]
  show _ = go8 (total + (c.instrs.length : Int), x6 + 1, bumpIs (c.instrs.drop (i + 1)) (bumpI t c.instrs[i]))
  have hl := V6 ht.2 (by omega) c.instrs[i]
  have hll := V5 t c.instrs[i]
  have hg := hgo (bumpI t c.instrs[i]) ⟨by rw [hll, ht.1], by rw [show b + ((i + 1 : Nat) : Int) = b + i + 1 by omega]; exact hl⟩
  rw [← hg]
  clear hg hl hll hgo
  generalize c.instrs[i] = x at hX ⊢
  unfold bumpI
  by_cases hn : namedOp x
  ·have ha := hX hn
   have hv := low_get ht.2 (by omega) x.a.toNat
   have hn' : decide (x.op = 11 ∨ x.op = 18 ∨ x.op = 19 ∨ x.op = 20) = true := decide_eq_true hn
   rw [hn', if_pos rfl, if_pos hn, C4 (d := 0) ha.1 (by omega), g8, g8, j5 (by omega), j5 (by omega)]
  ·have hn' : decide (x.op = 11 ∨ x.op = 18 ∨ x.op = 19 ∨ x.op = 20) = false := decide_eq_false hn
   rw [hn', if_neg hn]
   simp
 ·show i_IsImage_L2b total x6 go8 c go _ t = _
  unfold i_IsImage_L2b
  rw [if_neg (by omega), j5 (by omega), List.drop_length]; rfl
theorem s_count_eq (x2 : Int) (go4 : Int × List Int → Option Bool) (c : PCode) (n : Nat) (b : Int) (hb : 0 ≤ b ∧ b ≤ 1000000000) (hx2 : 0 ≤ x2 ∧ x2 ≤ 2000) (hc : c.instrs.length ≤ 4000) (hx : ∀ x ∈ c.instrs, InsOK' n x) (t : List Int) (ht : t.length = n) (hlow : low b t) :
 itr (s_l10Tree_L2 x2 go4 c) LF (0, t) = go4 (x2 + 1, bumpIs c.instrs t) := by
 rw [u5 (L := s_l10Tree_L2 x2 go4 c) c.instrs.length (fun i t => t.length = n ∧ low (b + i) t) (fun i t => go4 (x2 + 1, bumpIs (c.instrs.drop i) t)) (by omega) (fun go i t hi ht hgo => ?_) (fun go t ht => ?_) ⟨ht, by simpa using hlow⟩]
 ·rw [List.drop_zero]
 ·show s_l10Tree_L2b x2 go4 c go i t = _
  unfold s_l10Tree_L2b s_l10Tree_J3
  have hX := hx _ (List.getElem_mem hi)
  rw [if_pos (by omega), o6 hi, g8, eY, g8, j5 (by omega), List.drop_eq_getElem_cons hi]
  show _ = go4 (x2 + 1, bumpIs (c.instrs.drop (i + 1)) (bumpI t c.instrs[i]))
  have hl := V6 ht.2 (by omega) c.instrs[i]
  have hll := V5 t c.instrs[i]
  have hg := hgo (bumpI t c.instrs[i]) ⟨by rw [hll, ht.1], by rw [show b + ((i + 1 : Nat) : Int) = b + i + 1 by omega]; exact hl⟩
  rw [← hg]
  clear hg hl hll hgo
  generalize c.instrs[i] = x at hX ⊢
  unfold bumpI
  by_cases hn : namedOp x
  ·have ha := hX hn
   have hv := low_get ht.2 (by omega) x.a.toNat
   have hn' : decide (x.op = 11 ∨ x.op = 18 ∨ x.op = 19 ∨ x.op = 20) = true := decide_eq_true hn
   rw [hn', if_pos rfl, if_pos hn, C4 (d := 0) ha.1 (by omega), g8, g8, j5 (by omega), j5 (by omega)]
  ·have hn' : decide (x.op = 11 ∨ x.op = 18 ∨ x.op = 19 ∨ x.op = 20) = false := decide_eq_false hn
   rw [hn', if_neg hn]
   simp
 ·show s_l10Tree_L2b x2 go4 c go _ t = _
  unfold s_l10Tree_L2b
  rw [if_neg (by omega), j5 (by omega), List.drop_length]; rfl
end Go.Abs

namespace Go.Abs
def okOne (m : PImage) (k : Nat) : Bool := codeOKs false m k && (depthsOf m k).isSome
def okFrom (m : PImage) (k : Nat) : Bool := (List.range' k (m.codes.length - k)).all (okOne m)
theorem okFrom_0 (m : PImage) : okFrom m 0 = codesOK m := by unfold okFrom codesOK; rw [List.range_eq_range']; rfl
theorem Z2 {m : PImage} {k : Nat} (h : k < m.codes.length) : okFrom m k = (okOne m k && okFrom m (k + 1)) := by
 unfold okFrom
 rw [show m.codes.length - k = (m.codes.length - (k + 1)) + 1 by omega, List.range'_succ, List.all_cons]
theorem bM (m : PImage) : okFrom m m.codes.length = true := by unfold okFrom; simp
def addT (n : Int) (cs : List PCode) : Int := cs.foldl (fun n c => n + (c.instrs.length : Int)) n
theorem P7 : ∀ (xs : List PInstr) {b : Int} {t : List Int}, low b t → 0 ≤ b → low (b + xs.length) (bumpIs xs t)
 | [], b, t, h, _ => by simpa [bumpIs] using h
 | x :: xs, b, t, h, hb => by
  have h1 := P7 xs (V6 h hb x) (by omega)
  show low _ (bumpIs xs (bumpI t x))
  rw [show b + ((x :: xs).length : Int) = b + 1 + (xs.length : Int) by simp; omega]
  exact h1
theorem eW {m : PImage} {c : PCode} (h : ∀ x ∈ c.instrs, InsOK m x) : ∀ x ∈ c.instrs, InsOK' m.codes.length x := fun x hx hn => ⟨(h x hx).a.1, (h x hx).named hn⟩
theorem low_mono {b b' : Int} {t : List Int} (h : low b t) (hb : b ≤ b') : low b' t := fun v hv => by have := h v hv; omega
theorem low_zero (n : Nat) : low 0 (List.replicate n 0) := fun v hv => by rw [List.eq_of_mem_replicate hv]; omega
theorem dres_snd (o : Option (List Int)) : (dres o).2 = o.isSome := by cases o <;> rfl
def imgRest (m : PImage) (total : Int) (k : Nat) (t : List Int) : Bool :=
 okFrom m k && (((bumpCs (m.codes.drop k) t).take (m.codes.length - 1)).all (fun n => decide (n = 1)) && decide (addT total (m.codes.drop k) ≤ 16000))
theorem i_loop_eq (m : PImage) (hm : m.small) (hn : 1 ≤ m.codes.length ∧ m.codes.length ≤ 1500) : itr (i_IsImage_L1 m) LF (0, 0, List.replicate m.codes.length 0) = some (imgRest m 0 0 (List.replicate m.codes.length 0)) := by
 refine bI (fun v : Int × Int × List Int => some (imgRest m v.1 v.2.1.toNat v.2.2)) (fun v => (0 ≤ v.2.1 ∧ v.2.1 ≤ m.codes.length) ∧ (∀ i : Nat, (i : Int) < v.2.1 → codeOKs false m i = true) ∧ (0 ≤ v.1 ∧ v.1 ≤ 4000 * v.2.1) ∧ v.2.2.length = m.codes.length ∧ low (4000 * v.2.1) v.2.2) (fun v => m.codes.length - v.2.1.toNat) (fun go v hv hgo => ?_) (0, 0, List.replicate m.codes.length 0) ⟨⟨by simp, by simp⟩, fun i hi => by dsimp only at hi; omega, ⟨by simp, by simp⟩, by simp, by simpa using low_zero _⟩ (by simp; omega)
 obtain ⟨total, k0, t⟩ := v
 obtain ⟨⟨hk0, hk1⟩, hok, ht, hl, hlow⟩ := hv
 dsimp only at hk0 hk1 hok ht hl hlow ⊢
 obtain ⟨k, rfl⟩ := Int.eq_ofNat_of_zero_le hk0
 rw [Int.toNat_natCast]
 show i_IsImage_L1b m go total k t = _
 unfold i_IsImage_L1b
 by_cases hk : (k : Int) < m.codes.length
 ·have hkn : k < m.codes.length := by omega
  have hcs := hm.2 _ (cL (d := default) hkn)
  have hdrop : m.codes.drop k = m.codes.getD k default :: m.codes.drop (k + 1) := W3 hkn
  rw [if_pos hk, z2 (d := default) hkn, g8, i_codeOk_eq m k hm hkn, g8]
  unfold imgRest
  rw [Z2 hkn]
  unfold okOne
  cases hc : codeOKs false m k
  ·rw [if_neg (by simp)]; simp
  ·have hall : ∀ i, i ≤ k → codeOKs false m i = true := fun i hi => by
    by_cases e : i = k
    ·subst e; exact hc
    ·exact hok i (by omega)
   have hlen := cD hc
   have hins := cR hkn hall
   rw [if_pos rfl, cQ m k hkn hlen.1 hlen.2 hins, g8, dres_snd]
   cases hd : (depthsOf m k).isSome
   ·rw [if_neg (by simp)]; simp
   ·rw [if_pos rfl, j5 (by omega), hdrop]
    rw [i_count_eq total k go (m.codes.getD k default) m.codes.length (4000 * k) (by omega) (by omega) hlen.2 (eW hins) t hl hlow]
    have hb := P7 (m.codes.getD k default).instrs hlow (by omega)
    rw [hgo (total + ((m.codes.getD k default).instrs.length : Int), (k : Int) + 1, bumpIs (m.codes.getD k default).instrs t)
     ⟨⟨by dsimp only; omega, by dsimp only; omega⟩, fun i hi => hall i (by dsimp only at hi; omega), ⟨by dsimp only; omega, by dsimp only; omega⟩, by dsimp only; rw [P6]; exact hl, low_mono hb (by dsimp only; omega)⟩ (by dsimp only; omega)]
    dsimp only
    rw [show ((k : Int) + 1).toNat = k + 1 by omega]
    unfold imgRest
    simp only [Bool.true_and]
    rfl
 ·have hkn : k = m.codes.length := by omega
  subst hkn
  rw [if_neg hk, j5 (by omega), j5 (by omega)]
  unfold imgRest
  rw [bM, List.drop_length, Bool.true_and]
  have e : ((m.codes.length : Int) - 1).toNat = m.codes.length - 1 := by omega
  show itr (i_IsImage_L4 m total t) LF 0 = some (((t.take (m.codes.length - 1)).all fun n => decide (n = 1)) && decide (total ≤ 16000))
  rw [L5 (L := i_IsImage_L4 m total t) (t.take (m.codes.length - 1)) (fun n => decide (n = 1)) (some (decide (total ≤ 16000))) (some false) (by simp; omega) (fun go i hi => ?_) (fun go => ?_)]
  ·cases ((t.take (m.codes.length - 1)).all fun n => decide (n = 1)) <;> simp
  ·show i_IsImage_L4b m total t go i = _
   unfold i_IsImage_L4b
   have hi' := hi
   rw [List.length_take] at hi'
   rw [e, if_pos (by rw [List.length_take]; omega), o6 hi, g8, j5 (by omega)]
   by_cases h1 : (t.take (m.codes.length - 1))[i] = 1 <;> simp [h1]
  ·show i_IsImage_L4b m total t go _ = _
   unfold i_IsImage_L4b
   rw [e, if_neg (by omega)]
theorem eU (m : PImage) (hm : m.small) (captures : Int) : i_IsImage m captures = some (isImg m captures) := by
 unfold i_IsImage isImg inside
 by_cases h1 : (m.codes.length : Int) < 1
 ·have : decide (1 ≤ (m.codes.length : Int)) = false := by simp; omega
  rw [if_pos h1, this]; rfl
 ·have h1' : decide (1 ≤ (m.codes.length : Int)) = true := by simp; omega
  by_cases h2 : (m.codes.length : Int) > 1500
  ·have : decide ((m.codes.length : Int) ≤ 1500) = false := by simp; omega
   rw [if_neg h1, if_pos h2, h1', this]; rfl
  ·have h2' : decide ((m.codes.length : Int) ≤ 1500) = true := by simp; omega
   rw [if_neg h1, if_neg h2, h1', h2', j5 (by omega), j5 (by omega), j5 (by omega)]
   rw [C4 (d := default) (by omega) (by omega), g8, g8, j5 (by omega), show ((m.codes.length : Int) - 1).toNat = m.codes.length - 1 by omega, Int.toNat_natCast, i_loop_eq m hm (by omega)]
   by_cases h3 : m.main = (m.codes.length : Int) - 1
   ·rw [if_pos h3]
    by_cases h4 : (m.codes.getD (m.codes.length - 1) default).params = 0
    ·rw [if_pos h4]
     by_cases h5 : (m.codes.getD (m.codes.length - 1) default).captures = captures
     ·rw [if_pos h5]
      unfold imgRest
      rw [okFrom_0, List.drop_zero]
      simp only [h3, h4, h5, decide_true, Bool.true_and]
      congr 2
      exact Bool.and_comm _ _
     ·rw [if_neg h5]; simp only [h5, decide_false, Bool.and_false, Bool.false_and]
    ·rw [if_neg h4]; simp only [h4, decide_false, Bool.and_false, Bool.false_and]
   ·rw [if_neg h3]; simp only [h3, decide_false, Bool.and_false, Bool.false_and]
theorem s_tree_eq (m : PImage) (hm : m.small) (hn : 1 ≤ m.codes.length ∧ m.codes.length ≤ 1500) (hmain : m.main = (m.codes.length : Int) - 1) (hall : ∀ i, i < m.codes.length → codeOKs false m i = true) : s_l10Tree m = some (onceOK m) := by
 unfold s_l10Tree
 rw [j5 (by omega), Int.toNat_natCast]
 unfold onceOK
 rw [u5 (L := s_l10Tree_L1 m) m.codes.length (fun k t => t.length = m.codes.length ∧ low (4000 * k) t) (fun k t => some (((bumpCs (m.codes.drop k) t).take (m.codes.length - 1)).all fun n => decide (n = 1))) (by omega) (fun go k t hk ht hgo => ?_) (fun go t ht => ?_) ⟨by simp, by simpa using low_zero _⟩]
 ·rw [List.drop_zero]
 ·show s_l10Tree_L1b m go k t = _
  unfold s_l10Tree_L1b
  have hdrop : m.codes.drop k = m.codes.getD k default :: m.codes.drop (k + 1) := W3 hk
  have hlen := cD (hall k hk)
  have hins := cR hk (fun i hi => hall i (by omega))
  rw [if_pos (by omega), z2 (d := default) hk, g8, s_count_eq k go (m.codes.getD k default) m.codes.length (4000 * k) (by omega) (by omega) hlen.2 (eW hins) t ht.1 ht.2, hdrop]
  have hb := P7 (m.codes.getD k default).instrs ht.2 (by omega)
  rw [hgo _ ⟨by rw [P6]; exact ht.1, low_mono hb (by omega)⟩]
  rfl
 ·show s_l10Tree_L1b m go _ t = _
  unfold s_l10Tree_L1b
  rw [if_neg (by omega), List.drop_length]
  show itr (s_l10Tree_L4 m t) LF 0 = some ((t.take (m.codes.length - 1)).all fun n => decide (n = 1))
  rw [G7 (L := s_l10Tree_L4 m t) t.length (fun i => some (((t.take (m.codes.length - 1)).drop i).all fun n => decide (n = 1))) (by omega) (fun go i hi hgo => ?_) (fun go => ?_)]
  ·rw [List.drop_zero]
  ·show s_l10Tree_L4b m t go i = _
   unfold s_l10Tree_L4b s_l10Tree_J5
   rw [if_pos (by omega), o6 hi, g8, j5 (by omega)]
   by_cases h1 : t[i] = 1
   ·rw [if_pos h1, if_neg (by simp), hgo]
    by_cases h2 : i < m.codes.length - 1
    ·have hi2 : i < (t.take (m.codes.length - 1)).length := by rw [List.length_take]; omega
     rw [List.drop_eq_getElem_cons hi2, List.all_cons]
     simp [h1]
    ·rw [List.drop_eq_nil_of_le (by rw [List.length_take]; omega), List.drop_eq_nil_of_le (by rw [List.length_take]; omega)]
   ·rw [if_neg h1]
    by_cases h2 : (i : Int) = m.main
    ·simp only [h2, decide_true, Bool.not_true, Bool.false_eq_true, if_false]
     rw [← h2, hgo, List.drop_eq_nil_of_le (by rw [List.length_take]; omega), List.drop_eq_nil_of_le (by rw [List.length_take]; omega)]
    ·simp only [h2, decide_false, Bool.not_false, if_true]
     have hi2 : i < (t.take (m.codes.length - 1)).length := by rw [List.length_take]; omega
     rw [List.drop_eq_getElem_cons hi2, List.all_cons]
     simp [h1]
  ·show s_l10Tree_L4b m t go _ = _
   unfold s_l10Tree_L4b
   rw [if_neg (by omega), List.drop_eq_nil_of_le (by rw [List.length_take]; omega)]
   rfl
def sRest (m : PImage) (total : Int) (k : Nat) : Bool := okFrom m k && (decide (addT total (m.codes.drop k) ≤ 16000) && onceOK m)
theorem s_loop_eq (m : PImage) (hm : m.small) (hn : 1 ≤ m.codes.length ∧ m.codes.length ≤ 1500) (hmain : m.main = (m.codes.length : Int) - 1) : itr (s_IsImage_L1 m) LF (0, 0) = some (sRest m 0 0) := by
 refine bI (fun v : Int × Int => some (sRest m v.1 v.2.toNat)) (fun v => (0 ≤ v.2 ∧ v.2 ≤ m.codes.length) ∧ (∀ i : Nat, (i : Int) < v.2 → codeOKs false m i = true) ∧ (0 ≤ v.1 ∧ v.1 ≤ 4000 * v.2)) (fun v => m.codes.length - v.2.toNat) (fun go v hv hgo => ?_) (0, 0) ⟨⟨by simp, by simp⟩, fun i hi => by dsimp only at hi; omega, by simp, by simp⟩ (by simp; omega)
 obtain ⟨total, k0⟩ := v
 obtain ⟨⟨hk0, hk1⟩, hok, ht⟩ := hv
 dsimp only at hk0 hk1 hok ht ⊢
 obtain ⟨k, rfl⟩ := Int.eq_ofNat_of_zero_le hk0
 rw [Int.toNat_natCast]
 show s_IsImage_L1b m go total k = _
 unfold s_IsImage_L1b
 by_cases hk : (k : Int) < m.codes.length
 ·have hkn : k < m.codes.length := by omega
  have hdrop : m.codes.drop k = m.codes.getD k default :: m.codes.drop (k + 1) := W3 hkn
  rw [if_pos hk, fU m k hm hkn, g8, codeOK_same (fun i hi => hok i (by omega)), z2 (d := default) hkn]
  unfold sRest
  rw [Z2 hkn]
  unfold okOne
  cases hc : codeOKs false m k
  ·rw [if_neg (by simp)]; simp
  ·have hall : ∀ i, i ≤ k → codeOKs false m i = true := fun i hi => by
    by_cases e : i = k
    ·subst e; exact hc
    ·exact hok i (by omega)
   have hlen := cD hc
   have hins := cR hkn hall
   rw [if_pos rfl, aW m k hkn hlen.1 hlen.2 hins, g8, dres_snd]
   cases hd : (depthsOf m k).isSome
   ·rw [if_neg (by simp)]; simp
   ·rw [if_pos rfl, g8, j5 (by omega), j5 (by omega), hdrop]
    rw [hgo (total + ((m.codes.getD k default).instrs.length : Int), (k : Int) + 1) ⟨⟨by dsimp only; omega, by dsimp only; omega⟩, fun i hi => hall i (by dsimp only at hi; omega), by dsimp only; omega, by dsimp only; omega⟩ (by dsimp only; omega)]
    dsimp only
    rw [show ((k : Int) + 1).toNat = k + 1 by omega]
    unfold sRest
    simp only [Bool.true_and]
    rfl
 ·have hkn : k = m.codes.length := by omega
  subst hkn
  rw [if_neg hk]
  unfold sRest
  rw [bM, List.drop_length, Bool.true_and]
  show (if total ≤ 16000 then _ else _) = some (decide (total ≤ 16000) && onceOK m)
  by_cases h1 : total ≤ 16000
  ·rw [if_pos h1, s_tree_eq m hm hn hmain (fun i hi => hok i (by omega)), g8]; simp [h1]
  ·rw [if_neg h1]; simp [h1]
theorem fT (m : PImage) (hm : m.small) (captures : Int) : s_IsImage m captures = some (isImg m captures) := by
 have hm1 := hm.1
 unfold s_IsImage isImg
 rw [D5, g8, j5 (by omega)]
 cases h1 : inside m.codes.length 1 1500
 ·rfl
 ·have h1' : 1 ≤ m.codes.length ∧ m.codes.length ≤ 1500 := by
   unfold inside at h1
   simp only [Bool.and_eq_true, decide_eq_true_eq] at h1
   omega
  rw [if_pos rfl]
  by_cases h3 : m.main = (m.codes.length : Int) - 1
  ·rw [if_pos h3, h3, C4 (d := default) (by omega) (by omega), g8, g8, show ((m.codes.length : Int) - 1).toNat = m.codes.length - 1 by omega, s_loop_eq m hm h1' h3]
   by_cases h4 : (m.codes.getD (m.codes.length - 1) default).params = 0
   ·rw [if_pos h4]
    by_cases h5 : (m.codes.getD (m.codes.length - 1) default).captures = captures
    ·rw [if_pos h5]
     unfold sRest
     rw [okFrom_0, List.drop_zero]
     simp only [h4, h5, decide_true, Bool.true_and]
     rfl
    ·rw [if_neg h5]; simp only [h5, decide_false, Bool.and_false, Bool.false_and]
   ·rw [if_neg h4]; simp only [h4, decide_false, Bool.and_false, Bool.false_and]
  ·rw [if_neg h3]; simp only [h3, decide_false, Bool.and_false, Bool.false_and]
end Go.Abs

namespace Go.Abs
open PDat
mutual
def wD : PDat → Nat
 | .mk _ _ t is => t.length + wDs is
def wDs : List PDat → Nat
 | [] => 0
 | d :: r => 1 + wD d + wDs r
end
theorem gG (d : PDat) : wD d = d.text.length + wDs d.items := by cases d; rfl
theorem wDs_eq : ∀ ds : List PDat, wDs ds = wts wD ds
 | [] => rfl
 | d :: r => by have := wDs_eq r; unfold wts at *; simp [wDs]; omega
theorem dW : ∀ {ds : List PDat} {x : PDat}, x ∈ ds → wD x < wDs ds
 | d :: r, x, h => by
  unfold wDs
  rcases List.mem_cons.1 h with rfl | h
  ·omega
  ·have := dW h; omega
theorem cnt_wD : (∀ d : PDat, d.cnt ≤ wD d) ∧ ∀ ds : List PDat, cnts ds ≤ wDs ds := by
 refine ind (fun ds h => ?_) (fun d h => ?_)
 ·induction ds with
  | nil => simp [cnts]
  | cons x r ih => have := h x (by simp); have := ih (fun y hy => h y (by simp [hy])); unfold cnts wDs; omega
 ·rw [R4, gG]; omega
theorem short_wD : (∀ d : PDat, wD d ≤ 1048576 → d.short) ∧ ∀ ds : List PDat, wDs ds ≤ 1048576 → shorts ds := by
 refine ind (fun ds h => ?_) (fun d h => ?_)
 ·induction ds with
  | nil => intro _; trivial
  | cons x r ih => intro hw; unfold wDs at hw; exact ⟨h x (by simp) (by omega), ih (fun y hy => h y (by simp [hy])) (by omega)⟩
 ·intro hw; rw [gG] at hw; exact (dR d).2 ⟨by omega, h (by omega)⟩
theorem dS {d : PDat} (h : wD d ≤ 1048576) : d.small := ⟨short_wD.1 d h, by have := cnt_wD.1 d; omega⟩
def fit (d : PDat) : Prop := d.wf
theorem wf_len {d : PDat} (h : d.wf) : d.text.length ≤ 9223372036854775807 ∧ d.items.length ≤ 9223372036854775807 ∧ ∀ x ∈ d.items, x.wf := by
 have := (wf_eq d).1 h
 exact ⟨this.2.2.1, this.2.2.2.1, fun x hx => wfs_mem this.2.2.2.2 hx⟩
theorem w_sz_eq : ∀ n : Nat, (∀ d : PDat, d.wf → ∀ left : Int, 0 ≤ left → left ≤ 1048576 → 2 * left + 2 ≤ n → w_szDatum n d left = some (szw (wD d) left)) ∧ (∀ ds : List PDat, ds.length ≤ 9223372036854775807 → (∀ x ∈ ds, x.wf) → ∀ left : Int, 0 ≤ left → left ≤ 1048576 → 2 * left + 1 ≤ n → w_szDatumS n ds left = some (szw (wDs ds) left))
 | 0 => ⟨fun d _ left h1 _ h2 => by omega, fun ds _ _ left h1 _ h2 => by omega⟩
 | n + 1 => by
  have ih := w_sz_eq n
  refine ⟨fun d hw left h0 h1 h => ?_, fun ds hl hw left h0 h1 h => ?_⟩
  ·show w_szDatum_b (w_szDatum n) (w_szDatumS n) d left = _
   unfold w_szDatum_b
   have hw' := wf_len hw
   rw [j5 (by omega), gG, ← R2]
   by_cases hx : left - (d.text.length : Int) < 0
   ·have e : szw d.text.length left = -1 := by unfold szw; rw [if_pos hx]
    rw [if_pos hx, e]; unfold szw; rw [if_pos (by omega)]
   ·have e : szw d.text.length left = left - d.text.length := by unfold szw; rw [if_neg hx]
    rw [if_neg hx, e, ih.2 d.items hw'.2.1 hw'.2.2 _ (by omega) (by omega) (by omega), g8, gC]
  ·show w_szDatumS_b (w_szDatum n) (w_szDatumS n) ds left = _
   unfold w_szDatumS_b
   rw [wDs_eq]
   refine szS_eq (L := w_szDatumS_L1 (w_szDatum n) ds) (E := w_szDatum n) wD ds left (fun x hx m hm hm2 => ih.1 x (hw x hx) m hm (by omega) ?_) (fun go left i => rfl) ⟨h0, h1⟩ hl
   have : 0 < ds.length := List.length_pos_of_mem hx
   omega
def rfOK (d : PDat) : Prop := 2 * d.cnt + 1 < RF
theorem bQ {d : PDat} (h : d.small) : rfOK d := by unfold rfOK; rw [RF_eq]; have := h.2; omega
theorem w_to_eq : ∀ n : Nat, (∀ d : PDat, 2 * d.cnt + 1 < n → d.small → w_toDatum n d = some d) ∧ (∀ ds : List PDat, 2 * cnts ds < n → cnts ds ≤ 1048576 → (∀ x ∈ ds, x.small) → w_toDatumS n ds = some ds)
 | 0 => ⟨fun d h => by omega, fun ds h => by omega⟩
 | n + 1 => by
  have ih := w_to_eq n
  refine ⟨fun d h hs => ?_, fun ds h hl hw => ?_⟩
  ·show w_toDatum_b (w_toDatum n) (w_toDatumS n) d = _
   unfold w_toDatum_b
   have hc := R4 d
   rw [ih.2 d.items (by omega) (by have := hs.2; omega) (fun x hx => R0 hs hx), g8]
   cases d; rfl
  ·show w_toDatumS_b (w_toDatum n) (w_toDatumS n) ds = _
   unfold w_toDatumS_b
   exact toS_eq (L := w_toDatumS_L1 (w_toDatum n) ds) (T := w_toDatum n) _ ds 56 (by omega) (by have := M5 ds; omega) (fun x hx => ih.1 x (by have := G2 hx; omega) (hw x hx)) (fun go i out => rfl)
theorem w_eq_eq : ∀ n : Nat, (∀ d : PDat, 2 * d.cnt + 1 < n → d.small → w_eqDatum n d d = some true) ∧ (∀ ds : List PDat, 2 * cnts ds < n → cnts ds ≤ 1048576 → (∀ x ∈ ds, x.small) → w_eqDatumS n ds ds = some true)
 | 0 => ⟨fun d h => by omega, fun ds h => by omega⟩
 | n + 1 => by
  have ih := w_eq_eq n
  refine ⟨fun d h hs => ?_, fun ds h hl hw => ?_⟩
  ·show w_eqDatum_b (w_eqDatum n) (w_eqDatumS n) d d = _
   unfold w_eqDatum_b
   have hc := R4 d
   rw [if_pos rfl, if_pos rfl, if_pos rfl, ih.2 d.items (by omega) (by have := hs.2; omega) (fun x hx => R0 hs hx), g8, if_pos rfl]
  ·show w_eqDatumS_b (w_eqDatum n) (w_eqDatumS n) ds ds = _
   unfold w_eqDatumS_b
   exact cI (L := w_eqDatumS_L1 (w_eqDatum n) ds ds) (E := w_eqDatum n) ds (by have := M5 ds; omega) (fun x hx => ih.1 x (by have := G2 hx; omega) (hw x hx)) (fun go i => rfl)
theorem toDatum_eq {d : PDat} (h : d.small) : w_toDatum RF d = some d := (w_to_eq RF).1 d (bQ h) h
theorem eqDatum_eq {d : PDat} (h : d.small) : w_eqDatum RF d d = some true := (w_eq_eq RF).1 d (bQ h) h
theorem PDat.wf_of {x : Int × Int × List UInt8 × List PDat} (h : (IntKind.i64.min ≤ x.1 ∧ x.1 ≤ IntKind.i64.max) ∧ (IntKind.i64.min ≤ x.2.1 ∧ x.2.1 ≤ IntKind.i64.max) ∧ x.2.2.1.length ≤ 9223372036854775807 ∧ x.2.2.2.length ≤ 9223372036854775807 ∧ ∀ y ∈ x.2.2.2, y.wf) : (PDat.mk x.1 x.2.1 x.2.2.1 x.2.2.2).wf :=
 ⟨h.1, h.2.1, h.2.2.1, h.2.2.2.1, wfs_of h.2.2.2.2⟩
def wI (x : PInstr) : Nat := wD x.d
def wC (c : PCode) : Nat := wts wI c.instrs
def wM (m : PImage) : Nat := wts wC m.codes
def PInstr.ok (x : PInstr) : Prop := (IntKind.i64.min ≤ x.op ∧ x.op ≤ IntKind.i64.max) ∧ (IntKind.i64.min ≤ x.a ∧ x.a ≤ IntKind.i64.max) ∧ x.d.wf
def PCode.ok (c : PCode) : Prop := (IntKind.i64.min ≤ c.params ∧ c.params ≤ IntKind.i64.max) ∧ (IntKind.i64.min ≤ c.slots ∧ c.slots ≤ IntKind.i64.max) ∧ (IntKind.i64.min ≤ c.captures ∧ c.captures ≤ IntKind.i64.max) ∧ c.instrs.length ≤ 9223372036854775807 ∧ ∀ x ∈ c.instrs, x.ok
def PImage.ok (m : PImage) : Prop := (m.codes.length ≤ 9223372036854775807 ∧ ∀ c ∈ m.codes, c.ok) ∧ (IntKind.i64.min ≤ m.main ∧ m.main ≤ IntKind.i64.max)
theorem szInstr_eq (x : PInstr) (h : x.ok) (n : Int) (h0 : 0 ≤ n) (h1 : n ≤ 1048576) : w_szInstr x n = some (szw (wI x) n) := by
 unfold w_szInstr
 rw [(w_sz_eq RF).1 x.d h.2.2 n h0 h1 (by rw [RF_eq]; omega), g8, gC]; rfl
theorem szInstrS_eq (xs : List PInstr) (h : xs.length ≤ 9223372036854775807 ∧ ∀ x ∈ xs, x.ok) (n : Int) (h0 : 0 ≤ n) (h1 : n ≤ 1048576) : w_szInstrS xs n = some (szw (wts wI xs) n) := by
 unfold w_szInstrS
 exact szS_eq (L := w_szInstrS_L1 xs) (E := w_szInstr) wI xs n (fun x hx m a b => szInstr_eq x (h.2 x hx) m a (by omega)) (fun go left i => rfl) ⟨h0, h1⟩ h.1
theorem szCode_eq (c : PCode) (h : c.ok) (n : Int) (h0 : 0 ≤ n) (h1 : n ≤ 1048576) : w_szCode c n = some (szw (wC c) n) := by
 unfold w_szCode
 rw [szInstrS_eq c.instrs h.2.2.2 n h0 h1, g8, gC]; rfl
theorem szImage_eq (m : PImage) (h : m.ok) (n : Int) (h0 : 0 ≤ n) (h1 : n ≤ 1048576) : w_szImage m n = some (szw (wM m) n) := by
 unfold w_szImage w_szCodeS
 rw [szS_eq (L := w_szCodeS_L1 m.codes) (E := w_szCode) wC m.codes n (fun x hx m a b => szCode_eq x (h.1.2 x hx) m a (by omega)) (fun go left i => rfl) ⟨h0, h1⟩ h.1.1, g8, gC]; rfl
theorem small_wM {m : PImage} (h : wM m ≤ 1048576) : m.small := by
 have h' : m.codes.length + wsum wC m.codes ≤ 1048576 := h
 refine ⟨by omega, fun c hc => ?_⟩
 have h1 := I4 (wt := wC) hc
 have h2 : c.instrs.length + wsum wI c.instrs = wC c := rfl
 refine ⟨by omega, fun x hx => dS ?_⟩
 have h3 := I4 (wt := wI) hx
 have h4 : wI x = wD x.d := rfl
 omega
theorem toInstr_eq (x : PInstr) (h : x.d.small) : w_toInstr x = some x := by unfold w_toInstr; rw [toDatum_eq h]; rfl
theorem toCode_eq (c : PCode) (h : c.small) : w_toCode c = some c := by
 unfold w_toCode w_toInstrS
 rw [toS_eq (L := w_toInstrS_L1 c.instrs) (T := w_toInstr) _ c.instrs 72 (by omega) h.1 (fun x hx => toInstr_eq x (h.2 x hx)) (fun go i out => rfl)]; rfl
theorem toImage_eq (m : PImage) (h : m.small) : w_toImage m = some m := by
 unfold w_toImage w_toCodeS
 rw [toS_eq (L := w_toCodeS_L1 m.codes) (T := w_toCode) _ m.codes 48 (by omega) h.1 (fun x hx => toCode_eq x (h.2 x hx)) (fun go i out => rfl)]; rfl
theorem eqInstr_eq (x : PInstr) (h : x.d.small) : w_eqInstr x x = some true := by unfold w_eqInstr; rw [eqDatum_eq h]; simp
theorem eqCode_eq (c : PCode) (h : c.small) : w_eqCode c c = some true := by
 unfold w_eqCode w_eqInstrS
 rw [cI (L := w_eqInstrS_L1 c.instrs c.instrs) (E := w_eqInstr) c.instrs h.1 (fun x hx => eqInstr_eq x (h.2 x hx)) (fun go i => rfl)]; simp
theorem eqImage_eq (m : PImage) (h : m.small) : w_eqImage m m = some true := by
 unfold w_eqImage w_eqCodeS
 rw [cI (L := w_eqCodeS_L1 m.codes m.codes) (E := w_eqCode) m.codes h.1 (fun x hx => eqCode_eq x (h.2 x hx)) (fun go i => rfl)]; simp
end Go.Abs

namespace Go.Abs
open PDat
theorem itr_ex {σ R : Type} {L : (σ → Option R) → σ → Option R} (Q : R → Prop) (P : σ → Prop) (μ : σ → Nat)
 (step : ∀ go v, P v → (∀ v', P v' → μ v' < μ v → ∃ r, go v' = some r ∧ Q r) → ∃ r, L go v = some r ∧ Q r) : ∀ n v, P v → μ v < n → ∃ r, itr L n v = some r ∧ Q r
 | 0, v, _, h => by omega
 | n + 1, v, hp, h => step (itr L n) v hp fun v' hp' hm => itr_ex Q P μ step n v' hp' (by omega)
theorem B0 {σ R : Type} {L : (σ → Option R) → σ → Option R} (Q : R → Prop) (P : σ → Prop) (μ : σ → Nat)
 (step : ∀ go v, P v → (∀ v', P v' → μ v' < μ v → ∃ r, go v' = some r ∧ Q r) → ∃ r, L go v = some r ∧ Q r) (v : σ) (hp : P v) (h : μ v < 18446744073709551616) : ∃ r, itr L LF v = some r ∧ Q r := by
 rw [LF_eq]; exact itr_ex Q P μ step _ v hp h
theorem G9 (k : Int) (h : k ≤ 4611686018427387904) : ∃ t, w_markText k = some t := by
 unfold w_markText
 by_cases h0 : k ≤ 0
 ·rw [if_pos h0]; exact ⟨_, rfl⟩
 ·rw [if_neg h0]
  have := B0 (L := w_markText_L1) (fun _ => True) (fun v => 0 ≤ v.1 ∧ v.1 + v.2.length ≤ 4611686018427387904) (fun v => v.1.toNat) (fun go v hv hgo => ?_) (k, []) ⟨by omega, by simpa using h⟩ (by omega)
  ·obtain ⟨t, h1, _⟩ := this; exact ⟨t, h1⟩
  ·obtain ⟨k, out⟩ := v
   show ∃ r, w_markText_L1b go k out = some r ∧ True
   unfold w_markText_L1b
   have h1 : 0 ≤ k := hv.1
   have h2 : k + (out.length : Int) ≤ 4611686018427387904 := hv.2
   by_cases hk : k > 0
   ·rw [if_pos hk, j5 (by omega), j5 (by omega), j5 (by omega), j5 (by simp; omega), j5 (by omega)]
    exact hgo _ ⟨by show 0 ≤ k / 10; omega, by simp; omega⟩ (by show (k / 10).toNat < k.toNat; omega)
   ·rw [if_neg hk, j5 (by simp; omega)]
    exact ⟨_, rfl, trivial⟩
theorem D1 {α : Type} {l : List α} {i : Nat} {v : α} (h : i < l.length) : nth (l.set i v) (i : Int) = some v := by
 rw [o6 (by simpa using h)]; simp
theorem wts_cons {α : Type} (wt : α → Nat) (x : α) (r : List α) : wts wt (x :: r) = 1 + wt x + wts wt r := by
 unfold wts; simp only [List.length_cons, List.map_cons, List.sum_cons]; omega
theorem Y7 {α : Type} (wt : α → Nat) (xs : List α) {L : (Int × Int × List α → Option (Int × List α)) → Int × Int × List α → Option (Int × List α)} (k0 B : Int) (hn : xs.length ≤ 1048576) (hB : k0 + 6 * (wts wt xs : Nat) ≤ B)
 (step : ∀ go (i : Nat) (hi : i < xs.length) k a, a.length = xs.length → a[i]? = some xs[i] → k0 ≤ k → k + 6 * ((1 + wt xs[i] : Nat) : Int) ≤ B → ∃ k2 y, L go (k, (i : Int), a) = go (k2, (i : Int) + 1, a.set i y) ∧ k ≤ k2 ∧ k2 ≤ k + 6 * ((1 + wt xs[i] : Nat) : Int))
 (fin : ∀ go k a, a.length = xs.length → L go (k, (xs.length : Int), a) = some (k, a)) :
 ∃ k' a', itr L LF (k0, 0, xs) = some (k', a') ∧ a'.length = xs.length ∧ k0 ≤ k' ∧ k' ≤ B := by
 have := B0 (L := L) (fun r => r.2.length = xs.length ∧ k0 ≤ r.1 ∧ r.1 ≤ B) (fun v => (0 ≤ v.2.1 ∧ v.2.1 ≤ xs.length) ∧ v.2.2.length = xs.length ∧ v.2.2.drop v.2.1.toNat = xs.drop v.2.1.toNat ∧ k0 ≤ v.1 ∧ v.1 + 6 * ((wts wt (xs.drop v.2.1.toNat) : Nat) : Int) ≤ B) (fun v => xs.length - v.2.1.toNat) (fun go v hv hgo => ?_) (k0, 0, xs) ⟨⟨Int.le_refl _, by show (0 : Int) ≤ _; omega⟩, rfl, rfl, Int.le_refl _, by simpa using hB⟩ (by show xs.length - 0 < _; omega)
 ·obtain ⟨r, h1, h2, h3, h4⟩ := this
  exact ⟨r.1, r.2, h1, h2, h3, h4⟩
 ·obtain ⟨k, j, a⟩ := v
  obtain ⟨⟨h1, h2⟩, h3, h4, h5, h6⟩ := hv
  simp only at h1 h2 h3 h4 h5 h6
  obtain ⟨i, rfl⟩ := Int.eq_ofNat_of_zero_le h1
  simp only [Int.ofNat_eq_natCast, Int.toNat_natCast] at *
  by_cases hi : i < xs.length
  ·have hai : a[i]? = some xs[i] := by
    have := congrArg (fun l => l[0]?) h4
    simpa [List.getElem?_drop, List.getElem?_eq_getElem hi] using this
   have hw : wts wt (xs.drop i) = 1 + wt xs[i] + wts wt (xs.drop (i + 1)) := by
    rw [List.drop_eq_getElem_cons hi, wts_cons]
   obtain ⟨k2, y, e, g1, g2⟩ := step go i hi k a h3 hai h5 (by rw [hw] at h6; omega)
   rw [e]
   refine hgo (k2, (i : Int) + 1, a.set i y) ⟨⟨by show (0 : Int) ≤ (i : Int) + 1; omega, by show (i : Int) + 1 ≤ _; omega⟩, by simpa using h3, ?_, by show k0 ≤ k2; omega, ?_⟩ ?_
   ·have e2 : ((i : Int) + 1).toNat = i + 1 := by omega
    show (a.set i y).drop ((i : Int) + 1).toNat = xs.drop ((i : Int) + 1).toNat
    rw [e2, List.drop_set_of_lt (by omega)]
    have := congrArg (List.drop 1) h4
    simpa [List.drop_drop, Nat.add_comm] using this
   ·have e2 : ((i : Int) + 1).toNat = i + 1 := by omega
    show k2 + 6 * ((wts wt (xs.drop ((i : Int) + 1).toNat) : Nat) : Int) ≤ B
    rw [e2]
    rw [hw] at h6
    omega
   ·show xs.length - ((i : Int) + 1).toNat < xs.length - (i : Int).toNat
    omega
  ·have : i = xs.length := by omega
   subst this
   rw [fin go k a h3]
   refine ⟨_, rfl, h3, h5, ?_⟩
   rw [List.drop_length] at h6
   have h0 : wts wt ([] : List α) = 0 := rfl
   rw [h0] at h6
   show k ≤ B
   omega
theorem dA (k n : Int) (t : List UInt8) (is : List PDat) : (PDat.mk k n t is).items = is := rfl
theorem mk_kind (k n : Int) (t : List UInt8) (is : List PDat) : (PDat.mk k n t is).kind = k := rfl
theorem Y8 (k n : Int) (t : List UInt8) (is : List PDat) : (PDat.mk k n t is).number = n := rfl
theorem mk_text (k n : Int) (t : List UInt8) (is : List PDat) : (PDat.mk k n t is).text = t := rfl
theorem J0 : ∀ (n : Nat) (ds : List PDat) (k : Int), cnts ds < n → wDs ds ≤ 1048576 → 0 ≤ k → k + 6 * ((wDs ds : Nat) : Int) ≤ 1000000000000 → ∃ k' ds', w_markDatumS n ds k = some (k', ds') ∧ ds'.length = ds.length ∧ k ≤ k' ∧ k' ≤ k + 6 * ((wDs ds : Nat) : Int)
 | 0, ds, k, h, _, _, _ => by omega
 | n + 1, ds, k, h, hc, h0, h1 => by
  show ∃ k' ds', w_markDatumS_b (w_markDatumS n) ds k = some (k', ds') ∧ _
  unfold w_markDatumS_b
  have hl := M5 ds
  have hw := cnt_wD.2 ds
  rw [wDs_eq] at h1 ⊢
  refine Y7 wD ds (L := w_markDatumS_L1 (w_markDatumS n)) k (k + 6 * ((wts wD ds : Nat) : Int)) (by omega) (Int.le_refl _) (fun go i hi k1 a ha hai hk hB => ?_) (fun go k1 a ha => ?_)
  ·show ∃ k2 y, w_markDatumS_L1b (w_markDatumS n) go k1 (i : Int) a = _ ∧ _
   unfold w_markDatumS_L1b
   have hia : i < a.length := by omega
   have hm := dW (List.getElem_mem hi)
   have hmem := G2 (List.getElem_mem hi)
   have hx : a[i] = ds[i] := by
    rw [List.getElem?_eq_getElem hia] at hai; exact Option.some.inj hai
   have hwi := gG ds[i]
   have hci := R4 ds[i]
   obtain ⟨t, ht⟩ := G9 (k1 + 1 + 1) (by omega)
   obtain ⟨k', ds', e1, e2, e3, e4⟩ := J0 n ds[i].items (k1 + 1 + 1 + 1) (by omega) (by omega) (by omega) (by omega)
   simp only [Int.toNat_natCast, List.set_set]
   rw [if_pos (by omega), o6 hia, g8, j5 (by omega), D1 hia, g8, j5 (by omega), ht, g8, D1 hia, g8, j5 (by omega), D1 hia, g8, hx]
   try simp only [dA, mk_kind, Y8, mk_text]
   rw [e1, g8]
   exact ⟨k', _, (j5 e2).trans (j5 (by omega)), by omega, by omega⟩
  ·show w_markDatumS_L1b (w_markDatumS n) go k1 (ds.length : Int) a = _
   unfold w_markDatumS_L1b
   rw [if_neg (by omega)]
theorem Y5 (xs : List PInstr) (k : Int) (hw : wts wI xs ≤ 1048576) (h0 : 0 ≤ k) (h1 : k + 6 * ((wts wI xs : Nat) : Int) ≤ 1000000000000) : ∃ k' xs', w_markInstrS xs k = some (k', xs') ∧ xs'.length = xs.length ∧ k ≤ k' ∧ k' ≤ k + 6 * ((wts wI xs : Nat) : Int) := by
 unfold w_markInstrS
 have hlen : xs.length ≤ wts wI xs := by unfold wts; omega
 refine Y7 wI xs (L := w_markInstrS_L1 xs) k (k + 6 * ((wts wI xs : Nat) : Int)) (by omega) (Int.le_refl _) (fun go i hi k1 a ha hai hk hB => ?_) (fun go k1 a ha => ?_)
 ·show ∃ k2 y, w_markInstrS_L1b xs go k1 (i : Int) a = _ ∧ _
  unfold w_markInstrS_L1b
  have hia : i < a.length := by omega
  have hx : a[i] = xs[i] := by
   rw [List.getElem?_eq_getElem hia] at hai; exact Option.some.inj hai
  have hwm := I4 (wt := wI) (List.getElem_mem hi)
  have hws : wts wI xs = xs.length + wsum wI xs := rfl
  have hwi : wI xs[i] = wD xs[i].d := rfl
  have hwd := gG xs[i].d
  have hcc := cnt_wD.2 xs[i].d.items
  obtain ⟨t, ht⟩ := G9 (k1 + 1 + 1 + 1 + 1) (by omega)
  obtain ⟨k', ds', e1, e2, e3, e4⟩ := J0 RF xs[i].d.items (k1 + 1 + 1 + 1 + 1 + 1) (by rw [RF_eq]; omega) (by omega) (by omega) (by omega)
  simp only [Int.toNat_natCast, List.set_set]
  rw [if_pos (by omega), o6 hia, g8, j5 (by omega), D1 hia, g8, j5 (by omega), D1 hia, g8, j5 (by omega), D1 hia, g8, j5 (by omega), ht, g8, D1 hia, g8, j5 (by omega), D1 hia, g8, hx]
  try simp only [dA, mk_kind, Y8, mk_text]
  rw [e1, g8]
  exact ⟨k', _, (j5 e2).trans (j5 (by omega)), by omega, by omega⟩
 ·show w_markInstrS_L1b xs go k1 (xs.length : Int) a = _
  unfold w_markInstrS_L1b
  rw [if_neg (by omega)]
theorem aT (xs : List PCode) (k : Int) (hw : wts wC xs ≤ 1048576) (h0 : 0 ≤ k) (h1 : k + 6 * ((wts wC xs : Nat) : Int) ≤ 1000000000000) : ∃ k' xs', w_markCodeS xs k = some (k', xs') ∧ xs'.length = xs.length ∧ k ≤ k' ∧ k' ≤ k + 6 * ((wts wC xs : Nat) : Int) := by
 unfold w_markCodeS
 have hlen : xs.length ≤ wts wC xs := by unfold wts; omega
 refine Y7 wC xs (L := w_markCodeS_L1) k (k + 6 * ((wts wC xs : Nat) : Int)) (by omega) (Int.le_refl _) (fun go i hi k1 a ha hai hk hB => ?_) (fun go k1 a ha => ?_)
 ·show ∃ k2 y, w_markCodeS_L1b go k1 (i : Int) a = _ ∧ _
  unfold w_markCodeS_L1b
  have hia : i < a.length := by omega
  have hx : a[i] = xs[i] := by
   rw [List.getElem?_eq_getElem hia] at hai; exact Option.some.inj hai
  have hwm := I4 (wt := wC) (List.getElem_mem hi)
  have hws : wts wC xs = xs.length + wsum wC xs := rfl
  have hwi : wC xs[i] = wts wI xs[i].instrs := rfl
  obtain ⟨k', ds', e1, e2, e3, e4⟩ := Y5 xs[i].instrs (k1 + 1 + 1 + 1) (by omega) (by omega) (by omega)
  simp only [Int.toNat_natCast, List.set_set]
  rw [if_pos (by omega), o6 hia, g8, j5 (by omega), D1 hia, g8, j5 (by omega), D1 hia, g8, j5 (by omega), D1 hia, g8, hx]
  try simp only [dA, mk_kind, Y8, mk_text]
  rw [e1, g8]
  exact ⟨k', _, (j5 e2).trans (j5 (by omega)), by omega, by omega⟩
 ·show w_markCodeS_L1b go k1 (xs.length : Int) a = _
  unfold w_markCodeS_L1b
  rw [if_neg (by omega)]
theorem aU (m : PImage) (k : Int) (hw : wM m ≤ 1048576) (h0 : 0 ≤ k) (h1 : k ≤ 4000000) : ∃ k' xs', w_markImage m k = some (k', xs') ∧ xs'.length = m.codes.length ∧ k ≤ k' := by
 have hwm : wM m = wts wC m.codes := rfl
 obtain ⟨k', xs', e1, e2, e3, e4⟩ := aT m.codes k (by omega) h0 (by omega)
 unfold w_markImage
 rw [e1, g8, j5 e2]
 exact ⟨k', xs', rfl, e2, e3⟩
def nums (k : Int) : Nat → List Int
 | 0 => []
 | n + 1 => k :: nums (k + 1) n
theorem nums_len : ∀ (n : Nat) (k : Int), (nums k n).length = n
 | 0, _ => rfl
 | n + 1, k => by simp [nums, nums_len n]
theorem nums_get : ∀ (n : Nat) (k : Int) (i : Nat), i < n → (nums k n)[i]? = some (k + i)
 | 0, _, _, h => by omega
 | n + 1, k, 0, _ => by simp [nums]
 | n + 1, k, i + 1, h => by
  have := nums_get n (k + 1) i (by omega)
  simp only [nums, List.getElem?_cons_succ, this]
  congr 1; omega
theorem markIntS_some (xs : List Int) (hn : xs.length ≤ 1048576) : w_markIntS xs 1 = some (1 + (xs.length : Int), nums 1 xs.length) := by
 unfold w_markIntS
 have := B0 (L := w_markIntS_L1) (fun r => r = (1 + (xs.length : Int), nums 1 xs.length)) (fun v => (0 ≤ v.2.1 ∧ v.2.1 ≤ xs.length) ∧ v.1 = 1 + v.2.1 ∧ v.2.2.length = xs.length ∧ ∀ i : Nat, (i : Int) < v.2.1 → v.2.2[i]? = some (1 + (i : Int))) (fun v => xs.length - v.2.1.toNat) (fun go v hv hgo => ?_) (1, 0, xs) ⟨⟨by show (0:Int) ≤ 0; omega, by show (0 : Int) ≤ _; omega⟩, rfl, rfl, fun i hi => by have : (i : Int) < 0 := hi; omega⟩ (by show xs.length - 0 < _; omega)
 ·obtain ⟨r, h1, h2⟩ := this; rw [h1, h2]
 ·obtain ⟨k, j, a⟩ := v
  obtain ⟨⟨h1, h2⟩, h3, h4, h5⟩ := hv
  simp only at h1 h2 h3 h4 h5
  obtain ⟨i, rfl⟩ := Int.eq_ofNat_of_zero_le h1
  simp only [Int.ofNat_eq_natCast] at *
  show ∃ r, w_markIntS_L1b go k (i : Int) a = some r ∧ _
  unfold w_markIntS_L1b
  by_cases hi : i < xs.length
  ·rw [if_pos (by omega), o6 (by omega), g8, j5 (by omega), j5 (by omega), Int.toNat_natCast]
   refine hgo (k + 1, (i : Int) + 1, a.set i k) ⟨⟨by show (0 : Int) ≤ (i : Int) + 1; omega, by show (i : Int) + 1 ≤ _; omega⟩, by show k + 1 = 1 + ((i : Int) + 1); omega, by simpa using h4, fun m hm => ?_⟩ (by show xs.length - ((i : Int) + 1).toNat < xs.length - (i : Int).toNat; omega)
   have hm' : (m : Int) < (i : Int) + 1 := hm
   show (a.set i k)[m]? = _
   by_cases e : i = m
   ·subst e
    rw [List.getElem?_set_self (by omega), h3]
   ·rw [List.getElem?_set_ne e]
    exact h5 m (by omega)
  ·have : i = xs.length := by omega
   subst this
   rw [if_neg (by omega)]
   refine ⟨_, rfl, ?_⟩
   rw [h3]
   congr 1
   refine List.ext_getElem? fun m => ?_
   by_cases hm : m < xs.length
   ·rw [h5 m (by omega), nums_get _ _ m hm]
   ·rw [List.getElem?_eq_none (by omega), List.getElem?_eq_none (by rw [nums_len]; omega)]
end Go.Abs
