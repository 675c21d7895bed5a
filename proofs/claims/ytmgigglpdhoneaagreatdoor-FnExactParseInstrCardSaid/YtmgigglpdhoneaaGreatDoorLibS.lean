
import Derived.Test.YtmgigglpdhoneaaGreatDoorLibP
import Derived.Test.YtmgigglpdhoneaaGreatDoorLibF
set_option linter.unusedVariables false
set_option linter.unusedSimpArgs false
namespace Go.Abs
def symI (b : Int) : Bool := (decide (97 ≤ b) && decide (b ≤ 122)) || (decide (48 ≤ b) && decide (b ≤ 57)) || markOdd.contains b
theorem symI_b (b : UInt8) : symI b.toNat = markB b := rfl
theorem oA (b : Int) : V1 b = some (decide (48 ≤ b) && decide (b ≤ 57)) := by
 unfold V1
 by_cases h : 48 ≤ b <;> simp [h]
theorem bI (b : Int) : K8 b = some (decide (48 ≤ b) && decide (b ≤ 57)) := by
 unfold K8
 by_cases h : 48 ≤ b <;> simp [h]
theorem dQ (b : Int) (x : Bool) : o9 b x = some (x || markOdd.contains b) := by
 unfold o9
 cases x
 ·by_cases h : markOdd.contains b = true
  ·simp only [markOdd, List.contains_cons, Bool.or_eq_true, beq_iff_eq, List.contains_nil] at h
   rcases h with h | h | h | h | h | h | h | h | h | h | h | h
   all_goals first | (subst h; rfl) | cases h
  ·have h' : markOdd.contains b = false := by simpa using h
   simp only [markOdd, List.contains_cons, Bool.or_eq_true, beq_iff_eq, List.contains_nil, not_or] at h
   rw [h']
   simp [h]
 ·rfl
theorem iJ (b : Int) : N4 b = some (symI b) := by
 unfold N4 symI
 simp only [dQ]
 by_cases h1 : 97 ≤ b <;> by_cases h2 : b ≤ 122 <;> by_cases h3 : 48 ≤ b <;> simp [h1, h2, h3]
theorem kA (b : Int) (x : Bool) : F5 b x = some (x || markOdd.contains b) := by
 unfold F5
 cases x
 ·simp only [Bool.false_eq_true, if_false, Bool.false_or]
  have := fC (L := cW b) 11 (fun i => some ((markTab.drop i).any fun c => decide (((c.toNat : Nat) : Int) = b))) (by omega) (fun go i hi hgo => ?_) (fun go => ?_)
  ·rw [this, List.drop_zero, markTab_any]
  ·show J4 b go i = _
   unfold J4
   have hl : i < markTab.length := hi
   have hl' : (i : Int) < 11 := by omega
   simp only [show ([33, 63, 42, 60, 62, 61, 47, 43, 45, 46, 95] : LB) = markTab from rfl, show (markTab.length : Int) = 11 from rfl, hl', if_true, l6 hl, f5]
   rw [j3 (by omega), hgo, List.drop_eq_getElem_cons hl, List.any_cons]
   by_cases h : (markTab[i].toNat : Int) = b <;> simp [h]
  ·show J4 b go ((11 : Nat) : Int) = _
   rfl
 ·rfl
theorem s_l1Mark_eq (b : Int) : eG b = some (symI b) := by
 unfold eG symI
 simp only [kA, bI, f5]
 by_cases h1 : 97 ≤ b <;> by_cases h2 : b ≤ 122 <;> simp [h1, h2]
def SM (l : LB) : Prop := l.length ≤ 9223372036854775806
theorem iG (s : LB) (h : SM s) : itr (X1 s) LF 0 = some (s.all markB) := by
 rw [lT s markB (some true) (some false) (by unfold SM at h; omega) (fun go i hi => ?_) (fun go => ?_)]
 ·cases s.all markB <;> rfl
 ·show A2 s go i = _
  unfold A2 SM at *
  simp only [show ((i : Int) < (s.length : Int)) from by omega, if_true, l6 hi, f5, iJ, symI_b]
  rw [j3 (by omega)]
 ·show A2 s go _ = _
  unfold A2
  simp
theorem jG (s : LB) (h : SM s) : itr (Y0 s) LF 0 = some (s.all markB) := by
 rw [lT s markB (some true) (some false) (by unfold SM at h; omega) (fun go i hi => ?_) (fun go => ?_)]
 ·cases s.all markB <;> rfl
 ·show A4 s go i = _
  unfold A4 SM at *
  simp only [show ((i : Int) < (s.length : Int)) from by omega, if_true, l6 hi, f5, s_l1Mark_eq, symI_b]
  rw [j3 (by omega)]
 ·show A4 s go _ = _
  unfold A4
  simp
theorem dN (s : LB) (h : SM s) : P6 s = some (isSymbol s) := by
 unfold P6
 have hJ : ∀ b, s5 s b = some (!b && s.all markB) := fun b => by
  unfold s5
  cases b
  ·simp [iG s h]
  ·rfl
 simp only [hJ, oA, f5]
 unfold isSymbol headBad isDigit
 by_cases h1 : (s.length : Int) < 1
 ·simp [h1]
 ·by_cases h2 : (s.length : Int) > 16
  ·simp [h1, h2]
  ·have hl : 0 < s.length := by omega
   have e0 : nth s 0 = some (s.getD 0 0) := by rw [show (0 : Int) = ((0 : Nat) : Int) from rfl, l6 hl]; simp [List.getD, List.getElem?_eq_getElem hl]
   simp only [h1, h2, if_false, e0, f5]
   generalize s.getD 0 0 = b0
   by_cases h3 : (decide (48 ≤ (b0.toNat : Int)) && decide ((b0.toNat : Int) ≤ 57)) = true
   ·simp [h3]
   ·simp only [h3, if_false]
    by_cases h4 : (b0.toNat : Int) = 45
    ·by_cases h5 : (s.length : Int) > 1
     ·have hl1 : 1 < s.length := by omega
      have e1 : nth s 1 = some (s.getD 1 0) := by rw [show (1 : Int) = ((1 : Nat) : Int) from rfl, l6 hl1]; simp [List.getD, List.getElem?_eq_getElem hl1]
      simp [h4, h5, e1]
     ·simp [h4, h5]
    ·simp [h4]
theorem eE (x a b : Int) : V9 x a b = some (inside x a b) := by
 unfold V9 inside
 by_cases h : a ≤ x <;> simp [h]
theorem P3 (s : LB) (h : SM s) : G5 s = some (isSymbol s) := by
 unfold G5
 have hJ : ∀ b, t8 s b = some (!b && s.all markB) := fun b => by
  unfold t8
  cases b
  ·simp [jG s h]
  ·rfl
 simp only [hJ, bI, f5, eE]
 unfold isSymbol headBad isDigit inside
 by_cases h1 : (s.length : Int) < 1
 ·have h1' : (decide (1 ≤ (s.length : Int))) = false := by simp; omega
  simp [h1, h1']
 ·by_cases h2 : (s.length : Int) > 16
  ·simp [h1, h2]; omega
  ·have hl : 0 < s.length := by omega
   have e0 : nth s 0 = some (s.getD 0 0) := by rw [show (0 : Int) = ((0 : Nat) : Int) from rfl, l6 hl]; simp [List.getD, List.getElem?_eq_getElem hl]
   have h1' : 1 ≤ (s.length : Int) := by omega
   have h2' : (s.length : Int) ≤ 16 := by omega
   simp only [h1', h2', h1, h2, decide_true, Bool.and_self, if_true, e0, f5]
   generalize s.getD 0 0 = b0
   by_cases h3 : (decide (48 ≤ (b0.toNat : Int)) && decide ((b0.toNat : Int) ≤ 57)) = true
   ·simp [h3]
   ·simp only [h3, if_false]
    by_cases h4 : (b0.toNat : Int) = 45
    ·by_cases h5 : (s.length : Int) > 1
     ·have hl1 : 1 < s.length := by omega
      have e1 : nth s 1 = some (s.getD 1 0) := by rw [show (1 : Int) = ((1 : Nat) : Int) from rfl, l6 hl1]; simp [List.getD, List.getElem?_eq_getElem hl1]
      simp [h4, h5, e1]
     ·simp [h4, h5]
    ·simp [h4]
theorem aV (s : LB) (h : SM s) : E8 s = some (isText s) := by
 unfold E8 isText
 have hL : itr (Q8 s) LF 0 = some (s.all fun b => !badChar b) := by
  rw [lT s (fun b => !badChar b) (some true) (some false) (by unfold SM at h; omega) (fun go i hi => ?_) (fun go => ?_)]
  ·cases (s.all fun b => !badChar b) <;> rfl
  ·show u7 s go i = _
   unfold u7 SM at *
   simp only [show ((i : Int) < (s.length : Int)) from by omega, if_true, l6 hi, f5]
   rw [j3 (by omega)]
   unfold badChar
   by_cases h1 : (s[i].toNat : Int) < 32 <;> by_cases h2 : (s[i].toNat : Int) > 126 <;> by_cases h3 : (s[i].toNat : Int) = 34 <;> simp [h1, h2, h3]
  ·show u7 s go _ = _
   unfold u7
   simp
 rw [hL]
 by_cases h1 : (s.length : Int) > 20
 ·have : (decide ((s.length : Int) ≤ 20)) = false := by simp; omega
  simp [h1, this]
 ·have : (s.length : Int) ≤ 20 := by omega
  simp [h1]; omega
theorem Y6 (s : LB) (h : SM s) : G7 s = some (isText s) := by
 unfold G7 isText
 rw [lT s (fun b => !badChar b) (some (decide ((s.length : Int) ≤ 20))) (some false) (by unfold SM at h; omega) (fun go i hi => ?_) (fun go => ?_)]
 ·cases (s.all fun b => !badChar b) <;> simp
 ·show A7 s go i = _
  unfold A7 SM at *
  simp only [show ((i : Int) < (s.length : Int)) from by omega, if_true, l6 hi, f5]
  rw [j3 (by omega)]
  unfold badChar
  by_cases h1 : (s[i].toNat : Int) < 32 <;> by_cases h2 : (s[i].toNat : Int) > 126 <;> by_cases h3 : (s[i].toNat : Int) = 34 <;> simp [h1, h2, h3]
 ·show A7 s go _ = _
  unfold A7
  simp
theorem jU (k n : Int) (t : LB) (m : Int) (h : SM t) : Q7 k n t m = some (PD.nodeOK k n t m) := by
 unfold Q7 PD.nodeOK inside
 simp only [dN t h, aV t h, f5]
 repeat' split
 all_goals simp_all <;> omega
theorem s_l1Node_eq (k n : Int) (t : LB) (m : Int) (h : SM t) : eI k n t m = some (PD.nodeOK k n t m) := by
 unfold eI PD.nodeOK
 simp only [P3 t h, Y6 t h, eE, f5]
 repeat' split
 all_goals simp_all <;> omega
end Go.Abs

namespace Go.Abs
open PD
theorem small_SM {d : PD} (h : d.small) : SM d.text := by
 have := ((gU d).1 h.1).1
 unfold SM; omega
theorem K9 {d : PD} (h : d.small) : d.items.length ≤ 1048576 := by
 have h1 := cnts_len d.items
 have h2 := h.2
 rw [cnt_eq] at h2
 omega
theorem q8 {d : PD} (h : d.small) {i : Nat} (hi : i < d.items.length) : (d.items[i]).small ∧ (d.items[i]).cnt < d.cnt :=
 ⟨kW h (List.getElem_mem hi), lI (List.getElem_mem hi)⟩
theorem eq_loop {E : PD → PD → Option Bool} {L : (Int → Option Bool) → Int → Option Bool} (a b : PD) (hl : a.items.length = b.items.length) (hn : a.items.length ≤ 1048576)
 (hE : ∀ i (h : i < a.items.length) (h2 : i < b.items.length), E a.items[i] b.items[i] = some (eqb a.items[i] b.items[i]))
 (hL : ∀ go (i : Int), L go i = if i < (a.items.length : Int) then bnd (nth a.items i) fun x => bnd (nth b.items i) fun y => bnd (E x y) fun e => if e = true then chk (I64 (i + 1)) (go (i + 1)) else some false else some true) :
 itr L LF 0 = some (eqbs a.items b.items) := by
 rw [fC (L := L) a.items.length (fun i => some (eqbs (a.items.drop i) (b.items.drop i))) (by omega) (fun go i hi hgo => ?_) (fun go => ?_)]
 ·rfl
 ·have hi2 : i < b.items.length := by omega
  rw [hL, if_pos (by omega), l6 hi, l6 hi2]
  simp only [f5, hE i hi hi2]
  rw [j3 (by omega), hgo, List.drop_eq_getElem_cons hi, List.drop_eq_getElem_cons hi2, eqbs]
  cases eqb a.items[i] b.items[i] <;> simp
 ·rw [hL, if_neg (by omega), List.drop_length, hl, List.drop_length]; rfl
theorem cF : ∀ (n : Nat) (a b : PD), a.cnt < n → a.small → l7 n a b = some (eqb a b)
 | 0, a, b, h, _ => by omega
 | n + 1, a, b, h, ha => by
  show K0 (l7 n) a b = _
  unfold K0
  rw [eqb_eq]
  by_cases h1 : a.kind = b.kind <;> by_cases h2 : a.number = b.number <;> by_cases h3 : a.text = b.text <;> simp only [h1, h2, h3, if_true, if_false, decide_true, decide_false, Bool.true_and, Bool.false_and]
  by_cases h4 : a.items.length = b.items.length
  ·rw [if_pos (by omega), eq_loop (L := U1 (l7 n) a b) a b h4 (K9 ha) (E := l7 n) (fun i hi hi2 => cF n _ _ (by have := (q8 ha hi).2; omega) (q8 ha hi).1) (fun go i => rfl)]
  ·rw [if_neg (by omega)]
   cases he : eqbs a.items b.items
   ·rfl
   ·exact absurd (lO he) h4
theorem cI : ∀ (n : Nat) (a b : PD), a.cnt < n → a.small → l8 n a b = some (eqb a b)
 | 0, a, b, h, _ => by omega
 | n + 1, a, b, h, ha => by
  show K6 (l8 n) a b = _
  unfold K6
  rw [eqb_eq]
  by_cases h1 : a.kind = b.kind <;> by_cases h2 : a.number = b.number <;> by_cases h3 : a.text = b.text <;> simp only [h1, h2, h3, if_true, if_false, decide_true, decide_false, Bool.true_and, Bool.false_and]
  by_cases h4 : a.items.length = b.items.length
  ·rw [if_pos (by omega), eq_loop (L := U5 (l8 n) a b) a b h4 (K9 ha) (E := l8 n) (fun i hi hi2 => cI n _ _ (by have := (q8 ha hi).2; omega) (q8 ha hi).1) (fun go i => rfl)]
  ·rw [if_neg (by omega)]
   cases he : eqbs a.items b.items
   ·rfl
   ·exact absurd (lO he) h4
mutual
theorem eqb_true : ∀ {a b : PD}, eqb a b = true → a = b
 | .mk k n t is, .mk k' n' t' is', h => by
  simp only [eqb, Bool.and_eq_true, decide_eq_true_eq] at h
  obtain ⟨rfl, rfl, rfl, h⟩ := h
  rw [nO h]
theorem nO : ∀ {a b : List PD}, eqbs a b = true → a = b
 | [], [], _ => rfl
 | x :: r, y :: s, h => by
  simp only [eqbs, Bool.and_eq_true] at h
  rw [eqb_true h.1, nO h.2]
 | [], _ :: _, h => by simp [eqbs] at h
 | _ :: _, [], h => by simp [eqbs] at h
end
theorem RF_cnt {d : PD} (h : d.small) : d.cnt < RF := by rw [RF_eq]; have := h.2; omega
theorem aT : ∀ (n : Nat) (d : PD) (deep nodes : Int), d.cnt < n → d.small → 0 ≤ deep → deep ≤ 21 → 0 ≤ nodes → nodes ≤ 600 → n8 n d deep nodes = some (meas d deep nodes)
 | 0, d, _, _, h, _, _, _, _, _ => by omega
 | n + 1, d, deep, nodes, h, hd, h1, h2, h3, h4 => by
  show Q6 (n8 n) d deep nodes = _
  unfold Q6
  rw [meas_eq, j3 (by omega)]
  by_cases h5 : deep > 20
  ·rw [if_pos h5, if_pos (.inl h5)]
  ·rw [if_neg h5]
   by_cases h6 : nodes + 1 > 600
   ·rw [if_pos h6, if_pos (.inr (.inl h6))]
   ·rw [if_neg h6, jU _ _ _ _ (small_SM hd)]
    simp only [f5]
    cases h7 : nodeOK d.kind d.number d.text d.items.length
    ·simp
    ·rw [if_pos rfl, if_neg (by simp; omega)]
     have hs := K9 hd
     rw [gP (L := aQ (n8 n) d deep) d.items.length (fun i a => 0 ≤ a ∧ a ≤ 600) (fun i a => some (measL (d.items.drop i) (deep + 1) a)) (by omega) (fun go i a hi ha hgo => ?_) (fun go a ha => ?_) (by omega)]
     ·rfl
     ·show C6 (n8 n) d deep go i a = _
      unfold C6
      rw [if_pos (by omega), l6 hi]
      simp only [f5]
      rw [j3 (by omega), aT n _ _ _ (by have := (q8 hd hi).2; omega) (q8 hd hi).1 (by omega) (by omega) ha.1 ha.2]
      simp only [f5]
      rw [List.drop_eq_getElem_cons hi, measL]
      by_cases h8 : (meas d.items[i] (deep + 1) a).1 = true
      ·rw [if_pos h8, if_pos h8, j3 (by omega), hgo]
       have := (bA.1 d.items[i] (deep + 1) a)
       have h9 := this.1.1 h8
       have h10 := this.2 h8
       omega
      ·rw [if_neg h8, if_neg h8]
     ·show C6 (n8 n) d deep go _ a = _
      unfold C6
      rw [if_neg (by omega), List.drop_length]; rfl
theorem fQ (d : PD) (h : d.small) : V0 d = some d.valid := by
 unfold V0
 rw [aT RF d 1 0 (RF_cnt h) h (by omega) (by omega) (by omega) (by omega)]
 simp only [f5, meas_valid]
theorem s_l1Few_eq (n : Nat) : ∀ (d : PD) (left : Int), d.cnt < n → d.small → 0 ≤ left → left ≤ 600 → t6 n d left = some (decide (0 ≤ few d left), few d left) := by
 induction n with
 | zero => intro d _ h; omega
 | succ n ih =>
  intro d left h hd h1 h2
  show bJ (t6 n) d left = _
  unfold bJ
  rw [few_eq, j3 (by omega)]
  have hs := K9 hd
  rw [gP (L := fK (t6 n) d) d.items.length (fun i a => -1 ≤ a ∧ a ≤ 600) (fun i a => some (decide (0 ≤ fews (d.items.drop i) a), fews (d.items.drop i) a)) (by omega) (fun go i a hi ha hgo => ?_) (fun go a ha => ?_) (by omega)]
  ·rw [List.drop_zero]
  ·show J0 (t6 n) d go i a = _
   unfold J0 M7
   rw [if_pos (by omega), List.drop_eq_getElem_cons hi, fews]
   by_cases h0 : 0 ≤ a
   ·rw [if_pos (by simpa using h0), if_pos h0, l6 hi]
    rw [f5]
    rw [ih _ _ (by have := (q8 hd hi).2; omega) (q8 hd hi).1 h0 ha.2]
    rw [f5]
    have := (few_spec.1 d.items[i] a h0).1
    generalize few d.items[i] a = z at this ⊢
    rw [j3 (by omega), hgo _ (by omega)]
   ·rw [if_neg (by simpa using h0), if_neg h0]
  ·show J0 (t6 n) d go _ a = _
   unfold J0 M7
   rw [if_neg (by omega), List.drop_length]
   simp only [fews, Bool.false_eq_true, if_false]
   rfl
theorem oU (n : Nat) : ∀ (d : PD), d.cnt < n → d.small → o6 n d = some d.depth := by
 induction n with
 | zero => intro d h; omega
 | succ n ih =>
  intro d h hd
  show R5 (o6 n) d = _
  unfold R5
  have hs := K9 hd
  have hc := hd.2
  have hdc := nG.1 d
  have hmax : ∀ x ∈ d.items, 0 ≤ x.depth ∧ x.depth ≤ 1048577 := fun x hx => by
   have h1 := nG.1 x
   have h2 := lI hx
   omega
  rw [itr_Aidx (L := bG (o6 n) d) d.items.length (fun i a => 0 ≤ a ∧ a ≤ 1048577) (fun i a => some (max a (depths (d.items.drop i)) + 1)) (by omega) (fun go i a hi ha hgo => ?_) (fun go a ha => ?_) (by omega)]
  ·rw [depth_eq, List.drop_zero]
   have := J7 d.items
   rw [Int.max_eq_right this]
  ·show C8 (o6 n) d go a i = _
   unfold C8
   have hx := hmax _ (List.getElem_mem hi)
   rw [if_pos (by omega), l6 hi]
   rw [f5]
   rw [ih _ (by have := (q8 hd hi).2; omega) (q8 hd hi).1]
   rw [f5]
   rw [List.drop_eq_getElem_cons hi, depths]
   generalize depth d.items[i] = z at hx ⊢
   rw [j3 (by omega), hgo _ (by omega), Int.max_assoc]
  ·show C8 (o6 n) d go a _ = _
   unfold C8
   rw [if_neg (by omega), List.drop_length, j3 (by omega)]
   simp only [depths]
   rw [Int.max_eq_left ha.1]
theorem fZ : ∀ (n : Nat) (d : PD), d.cnt < n → d.small → o7 n d = some d.okAll
 | 0, d, h, _ => by omega
 | n + 1, d, h, hd => by
  show R9 (o7 n) d = _
  unfold R9
  have hs := K9 hd
  rw [dW, fC (L := bL (o7 n) d) d.items.length (fun i => some (okAlls (d.items.drop i) && nodeOK d.kind d.number d.text d.items.length)) (by omega) (fun go i hi hgo => ?_) (fun go => ?_)]
  ·rw [List.drop_zero, Bool.and_comm]
  ·show D3 (o7 n) d go i = _
   unfold D3
   rw [if_pos (by omega), l6 hi]
   simp only [f5]
   rw [fZ n _ (by have := (q8 hd hi).2; omega) (q8 hd hi).1]
   simp only [f5]
   rw [j3 (by omega), hgo, List.drop_eq_getElem_cons hi, okAlls]
   cases okAll d.items[i] <;> simp
  ·show D3 (o7 n) d go _ = _
   unfold D3
   rw [if_neg (by omega), List.drop_length, s_l1Node_eq _ _ _ _ (small_SM hd)]
   simp [okAlls]
theorem fW (d : PD) (h : d.small) : V5 d = some d.valid := by
 unfold V5
 rw [s_l1Few_eq RF d 600 (RF_cnt h) h (by omega) (by omega), oU RF d (RF_cnt h) h, fZ RF d (RF_cnt h) h]
 simp only [f5]
 rw [← few_valid]
 by_cases h1 : 0 ≤ few d 600 <;> by_cases h2 : d.depth ≤ 20 <;> simp [h1, h2]
def PInstr.small (x : PInstr) : Prop := x.d.small
theorem zeroDat_small : zeroDat.small := ⟨⟨by simp, trivial⟩, by simp [zeroDat, cnt, cnts]⟩
theorem nY (x : PInstr) (h : x.d.small) : aP x = some (instrOK x) := by
 unfold aP instrOK inside
 rw [fQ _ h, cF RF _ _ (RF_cnt h) h]
 simp only [f5, show PD.mk 0 0 ([] : LB) [] = zeroDat from rfl]
 by_cases h1 : x.op < 1
 ·have : ¬ 1 ≤ x.op := by omega
  simp [h1, this]
 ·have h1' : 1 ≤ x.op := by omega
  by_cases h2 : x.op > 20
  ·have : ¬ x.op ≤ 20 := by omega
   simp [h1, h2, this]
  ·have h2' : x.op ≤ 20 := by omega
   by_cases h3 : x.op = 1
   ·by_cases h4 : x.a = 0 <;> simp [h3, h4]
   ·simp only [h1, h2, h3, h1', h2', if_false, decide_true, Bool.true_and, Bool.and_self]
    cases eqb x.d zeroDat
    ·simp
    ·by_cases h5 : x.a < 0
     ·have : ¬ 0 ≤ x.a := by omega
      simp [h5, this]
     ·have h5' : 0 ≤ x.a := by omega
      by_cases h6 : x.a > 4000
      ·have : ¬ x.a ≤ 4000 := by omega
       simp [h5, h6, this]
      ·have h6' : x.a ≤ 4000 := by omega
       by_cases h7 : x.a = 0 <;> by_cases h8 : x.op = 14 <;> simp [h5, h6, h5', h6', h7, h8]
theorem mL (x : PInstr) (h : x.d.small) : V6 x = some (instrOK x) := by
 unfold V6 instrOK P9
 rw [fW _ h, cI RF _ _ (RF_cnt h) h]
 simp only [f5, show PD.mk 0 0 ([] : LB) [] = zeroDat from rfl, eE]
 cases inside x.op 1 20
 ·simp
 ·by_cases h3 : x.op = 1
  ·by_cases h4 : x.a = 0 <;> simp [h3, h4]
  ·cases eqb x.d zeroDat
   ·simp [h3]
   ·cases inside x.a 0 4000
    ·simp [h3]
    ·by_cases h7 : x.a = 0 <;> by_cases h8 : x.op = 14 <;> simp [h3, h7, h8]
end Go.Abs

namespace Go.Abs
open PD
mutual
def wD : PD → Nat
 | .mk _ _ t is => t.length + wDs is
def wDs : List PD → Nat
 | [] => 0
 | d :: r => 1 + wD d + wDs r
end
theorem fN (d : PD) : wD d = d.text.length + wDs d.items := by cases d; rfl
theorem wDs_eq : ∀ ds : List PD, wDs ds = wts wD ds
 | [] => rfl
 | d :: r => by have := wDs_eq r; unfold wts at *; simp [wDs]; omega
theorem bO : ∀ {ds : List PD} {x : PD}, x ∈ ds → wD x < wDs ds
 | d :: r, x, h => by
  unfold wDs
  rcases List.mem_cons.1 h with rfl | h
  ·omega
  ·have := bO h; omega
theorem kK : (∀ d : PD, d.cnt ≤ wD d) ∧ ∀ ds : List PD, cnts ds ≤ wDs ds := by
 refine ind (fun ds h => ?_) (fun d h => ?_)
 ·induction ds with
  | nil => simp [cnts]
  | cons x r ih => have := h x (by simp); have := ih (fun y hy => h y (by simp [hy])); unfold cnts wDs; omega
 ·rw [cnt_eq, fN]; omega
theorem short_wD : (∀ d : PD, wD d ≤ 1048576 → d.short) ∧ ∀ ds : List PD, wDs ds ≤ 1048576 → shorts ds := by
 refine ind (fun ds h => ?_) (fun d h => ?_)
 ·induction ds with
  | nil => intro _; trivial
  | cons x r ih => intro hw; unfold wDs at hw; exact ⟨h x (by simp) (by omega), ih (fun y hy => h y (by simp [hy])) (by omega)⟩
 ·intro hw; rw [fN] at hw; exact (gU d).2 ⟨by omega, h (by omega)⟩
theorem eO {d : PD} (h : wD d ≤ 1048576) : d.small := ⟨short_wD.1 d h, by have := kK.1 d; omega⟩
def fit (d : PD) : Prop := d.wf
theorem wf_len {d : PD} (h : d.wf) : d.text.length ≤ 9223372036854775807 ∧ d.items.length ≤ 9223372036854775807 ∧ ∀ x ∈ d.items, x.wf := by
 have := (wf_eq d).1 h
 exact ⟨this.2.2.1, this.2.2.2.1, fun x hx => wfs_mem this.2.2.2.2 hx⟩
def rfOK (d : PD) : Prop := 2 * d.cnt + 1 < RF
theorem rfOK_small {d : PD} (h : d.small) : rfOK d := by unfold rfOK; rw [RF_eq]; have := h.2; omega
theorem w_eq_eq : ∀ n : Nat, (∀ d : PD, 2 * d.cnt + 1 < n → d.small → l4 n d d = some true) ∧ (∀ ds : List PD, 2 * cnts ds < n → cnts ds ≤ 1048576 → (∀ x ∈ ds, x.small) → o4 n ds ds = some true)
 | 0 => ⟨fun d h => by omega, fun ds h => by omega⟩
 | n + 1 => by
  have ih := w_eq_eq n
  refine ⟨fun d h hs => ?_, fun ds h hl hw => ?_⟩
  ·show S7 (l4 n) (o4 n) d d = _
   unfold S7
   have hc := cnt_eq d
   rw [if_pos rfl, if_pos rfl, if_pos rfl, ih.2 d.items (by omega) (by have := hs.2; omega) (fun x hx => kW hs hx), f5, if_pos rfl]
  ·show O1 (l4 n) (o4 n) ds ds = _
   unfold O1
   exact eqS_refl (L := Z1 (l4 n) ds ds) (E := l4 n) ds (by have := cnts_len ds; omega) (fun x hx => ih.1 x (by have := cnts_mem hx; omega) (hw x hx)) (fun go i => rfl)
theorem eqDatum_eq {d : PD} (h : d.small) : l4 RF d d = some true := (w_eq_eq RF).1 d (rfOK_small h) h
theorem PD.wf_of {x : Int × Int × LB × List PD} (h : (IntKind.i64.min ≤ x.1 ∧ x.1 ≤ IntKind.i64.max) ∧ (IntKind.i64.min ≤ x.2.1 ∧ x.2.1 ≤ IntKind.i64.max) ∧ x.2.2.1.length ≤ 9223372036854775807 ∧ x.2.2.2.length ≤ 9223372036854775807 ∧ ∀ y ∈ x.2.2.2, y.wf) : (PD.mk x.1 x.2.1 x.2.2.1 x.2.2.2).wf :=
 ⟨h.1, h.2.1, h.2.2.1, h.2.2.2.1, wfs_of h.2.2.2.2⟩
def wI (x : PInstr) : Nat := wD x.d
def wC (c : PCode) : Nat := wts wI c.instrs
def wM (m : PImage) : Nat := wts wC m.codes
def PInstr.ok (x : PInstr) : Prop := (IntKind.i64.min ≤ x.op ∧ x.op ≤ IntKind.i64.max) ∧ (IntKind.i64.min ≤ x.a ∧ x.a ≤ IntKind.i64.max) ∧ x.d.wf
def PCode.ok (c : PCode) : Prop := (IntKind.i64.min ≤ c.params ∧ c.params ≤ IntKind.i64.max) ∧ (IntKind.i64.min ≤ c.slots ∧ c.slots ≤ IntKind.i64.max) ∧ (IntKind.i64.min ≤ c.captures ∧ c.captures ≤ IntKind.i64.max) ∧ c.instrs.length ≤ 9223372036854775807 ∧ ∀ x ∈ c.instrs, x.ok
def PImage.ok (m : PImage) : Prop := (m.codes.length ≤ 9223372036854775807 ∧ ∀ c ∈ m.codes, c.ok) ∧ (IntKind.i64.min ≤ m.main ∧ m.main ≤ IntKind.i64.max)
theorem small_wM {m : PImage} (h : wM m ≤ 1048576) : m.small := by
 have h' : m.codes.length + wsum wC m.codes ≤ 1048576 := h
 refine ⟨by omega, fun c hc => ?_⟩
 have h1 := mW (wt := wC) hc
 have h2 : c.instrs.length + wsum wI c.instrs = wC c := rfl
 refine ⟨by omega, fun x hx => eO ?_⟩
 have h3 := mW (wt := wI) hx
 have h4 : wI x = wD x.d := rfl
 omega
theorem kM (x : PInstr) (h : x.d.small) : W5 x x = some true := by unfold W5; rw [eqDatum_eq h]; simp
end Go.Abs

namespace Go.Abs
open PD
theorem itr_ex {σ R : Type} {L : (σ → Option R) → σ → Option R} (Q : R → Prop) (P : σ → Prop) (μ : σ → Nat)
 (step : ∀ go v, P v → (∀ v', P v' → μ v' < μ v → ∃ r, go v' = some r ∧ Q r) → ∃ r, L go v = some r ∧ Q r) : ∀ n v, P v → μ v < n → ∃ r, itr L n v = some r ∧ Q r
 | 0, v, _, h => by omega
 | n + 1, v, hp, h => step (itr L n) v hp fun v' hp' hm => itr_ex Q P μ step n v' hp' (by omega)
theorem bW {σ R : Type} {L : (σ → Option R) → σ → Option R} (Q : R → Prop) (P : σ → Prop) (μ : σ → Nat)
 (step : ∀ go v, P v → (∀ v', P v' → μ v' < μ v → ∃ r, go v' = some r ∧ Q r) → ∃ r, L go v = some r ∧ Q r) (v : σ) (hp : P v) (h : μ v < 18446744073709551616) : ∃ r, itr L LF v = some r ∧ Q r := by
 rw [LF_eq]; exact itr_ex Q P μ step _ v hp h
theorem dT (k : Int) (h : k ≤ 4611686018427387904) : ∃ t, J5 k = some t := by
 unfold J5
 by_cases h0 : k ≤ 0
 ·rw [if_pos h0]; exact ⟨_, rfl⟩
 ·rw [if_neg h0]
  have := bW (L := Z4) (fun _ => True) (fun v => 0 ≤ v.1 ∧ v.1 + v.2.length ≤ 4611686018427387904) (fun v => v.1.toNat) (fun go v hv hgo => ?_) (k, []) ⟨by omega, by simpa using h⟩ (by omega)
  ·obtain ⟨t, h1, _⟩ := this; exact ⟨t, h1⟩
  ·obtain ⟨k, out⟩ := v
   show ∃ r, I3 go k out = some r ∧ True
   unfold I3
   have h1 : 0 ≤ k := hv.1
   have h2 : k + (out.length : Int) ≤ 4611686018427387904 := hv.2
   by_cases hk : k > 0
   ·rw [if_pos hk, j3 (by omega), j3 (by omega), j3 (by omega), j3 (by simp; omega), j3 (by omega)]
    exact hgo _ ⟨by show 0 ≤ k / 10; omega, by simp; omega⟩ (by show (k / 10).toNat < k.toNat; omega)
   ·rw [if_neg hk, j3 (by simp; omega)]
    exact ⟨_, rfl, trivial⟩
theorem fE {α : Type} {l : List α} {i : Nat} {v : α} (h : i < l.length) : nth (l.set i v) (i : Int) = some v := by
 rw [l6 (by simpa using h)]; simp
theorem eS {α : Type} (wt : α → Nat) (x : α) (r : List α) : wts wt (x :: r) = 1 + wt x + wts wt r := by
 unfold wts; simp only [List.length_cons, List.map_cons, List.sum_cons]; omega
theorem mark_loop {α : Type} (wt : α → Nat) (xs : List α) {L : (Int × Int × List α → Option (Int × List α)) → Int × Int × List α → Option (Int × List α)} (k0 B : Int) (hn : xs.length ≤ 1048576) (hB : k0 + 6 * (wts wt xs : Nat) ≤ B)
 (step : ∀ go (i : Nat) (hi : i < xs.length) k a, a.length = xs.length → a[i]? = some xs[i] → k0 ≤ k → k + 6 * ((1 + wt xs[i] : Nat) : Int) ≤ B → ∃ k2 y, L go (k, (i : Int), a) = go (k2, (i : Int) + 1, a.set i y) ∧ k ≤ k2 ∧ k2 ≤ k + 6 * ((1 + wt xs[i] : Nat) : Int))
 (fin : ∀ go k a, a.length = xs.length → L go (k, (xs.length : Int), a) = some (k, a)) :
 ∃ k' a', itr L LF (k0, 0, xs) = some (k', a') ∧ a'.length = xs.length ∧ k0 ≤ k' ∧ k' ≤ B := by
 have := bW (L := L) (fun r => r.2.length = xs.length ∧ k0 ≤ r.1 ∧ r.1 ≤ B) (fun v => (0 ≤ v.2.1 ∧ v.2.1 ≤ xs.length) ∧ v.2.2.length = xs.length ∧ v.2.2.drop v.2.1.toNat = xs.drop v.2.1.toNat ∧ k0 ≤ v.1 ∧ v.1 + 6 * ((wts wt (xs.drop v.2.1.toNat) : Nat) : Int) ≤ B) (fun v => xs.length - v.2.1.toNat) (fun go v hv hgo => ?_) (k0, 0, xs) ⟨⟨Int.le_refl _, by show (0 : Int) ≤ _; omega⟩, rfl, rfl, Int.le_refl _, by simpa using hB⟩ (by show xs.length - 0 < _; omega)
 ·obtain ⟨r, h1, h2, h3, h4⟩ := this
  exact ⟨r.1, r.2, h1, h2, h3, h4⟩
 ·obtain ⟨k, j, a⟩ := v
  obtain ⟨⟨h1, h2⟩, h3, h4, h5, h6⟩ := hv
  simp only at h1 h2 h3 h4 h5 h6
  obtain ⟨i, rfl⟩ := Int.eq_ofNat_of_zero_le h1
  simp only [Int.ofNat_eq_natCast, Int.toNat_natCast] at *
  by_cases hi : i < xs.length
  ·have hai : a[i]? = some xs[i] := by
    have := congrArg (fun l => l[0]?) h4
    simpa [List.getElem?_drop, List.getElem?_eq_getElem hi] using this
   have hw : wts wt (xs.drop i) = 1 + wt xs[i] + wts wt (xs.drop (i + 1)) := by
    rw [List.drop_eq_getElem_cons hi, eS]
   obtain ⟨k2, y, e, g1, g2⟩ := step go i hi k a h3 hai h5 (by rw [hw] at h6; omega)
   rw [e]
   refine hgo (k2, (i : Int) + 1, a.set i y) ⟨⟨by show (0 : Int) ≤ (i : Int) + 1; omega, by show (i : Int) + 1 ≤ _; omega⟩, by simpa using h3, ?_, by show k0 ≤ k2; omega, ?_⟩ ?_
   ·have e2 : ((i : Int) + 1).toNat = i + 1 := by omega
    show (a.set i y).drop ((i : Int) + 1).toNat = xs.drop ((i : Int) + 1).toNat
    rw [e2, List.drop_set_of_lt (by omega)]
    have := congrArg (List.drop 1) h4
    simpa [List.drop_drop, Nat.add_comm] using this
   ·have e2 : ((i : Int) + 1).toNat = i + 1 := by omega
    show k2 + 6 * ((wts wt (xs.drop ((i : Int) + 1).toNat) : Nat) : Int) ≤ B
    rw [e2]
    rw [hw] at h6
    omega
   ·show xs.length - ((i : Int) + 1).toNat < xs.length - (i : Int).toNat
    omega
  ·have : i = xs.length := by omega
   subst this
   rw [fin go k a h3]
   refine ⟨_, rfl, h3, h5, ?_⟩
   rw [List.drop_length] at h6
   have h0 : wts wt ([] : List α) = 0 := rfl
   rw [h0] at h6
   show k ≤ B
   omega
theorem lZ (k n : Int) (t : LB) (is : List PD) : (PD.mk k n t is).items = is := rfl
theorem mk_kind (k n : Int) (t : LB) (is : List PD) : (PD.mk k n t is).kind = k := rfl
theorem iQ (k n : Int) (t : LB) (is : List PD) : (PD.mk k n t is).number = n := rfl
theorem mk_text (k n : Int) (t : LB) (is : List PD) : (PD.mk k n t is).text = t := rfl
theorem iO : ∀ (n : Nat) (ds : List PD) (k : Int), cnts ds < n → wDs ds ≤ 1048576 → 0 ≤ k → k + 6 * ((wDs ds : Nat) : Int) ≤ 1000000000000 → ∃ k' ds', j5 n ds k = some (k', ds') ∧ ds'.length = ds.length ∧ k ≤ k' ∧ k' ≤ k + 6 * ((wDs ds : Nat) : Int)
 | 0, ds, k, h, _, _, _ => by omega
 | n + 1, ds, k, h, hc, h0, h1 => by
  show ∃ k' ds', A8 (j5 n) ds k = some (k', ds') ∧ _
  unfold A8
  have hl := cnts_len ds
  have hw := kK.2 ds
  rw [wDs_eq] at h1 ⊢
  refine mark_loop wD ds (L := L3 (j5 n)) k (k + 6 * ((wts wD ds : Nat) : Int)) (by omega) (Int.le_refl _) (fun go i hi k1 a ha hai hk hB => ?_) (fun go k1 a ha => ?_)
  ·show ∃ k2 y, m6 (j5 n) go k1 (i : Int) a = _ ∧ _
   unfold m6
   have hia : i < a.length := by omega
   have hm := bO (List.getElem_mem hi)
   have hmem := cnts_mem (List.getElem_mem hi)
   have hx : a[i] = ds[i] := by
    rw [List.getElem?_eq_getElem hia] at hai; exact Option.some.inj hai
   have hwi := fN ds[i]
   have hci := cnt_eq ds[i]
   obtain ⟨t, ht⟩ := dT (k1 + 1 + 1) (by omega)
   obtain ⟨k', ds', e1, e2, e3, e4⟩ := iO n ds[i].items (k1 + 1 + 1 + 1) (by omega) (by omega) (by omega) (by omega)
   simp only [Int.toNat_natCast, List.set_set]
   rw [if_pos (by omega), l6 hia, f5, j3 (by omega), fE hia, f5, j3 (by omega), ht, f5, fE hia, f5, j3 (by omega), fE hia, f5, hx]
   try simp only [lZ, mk_kind, iQ, mk_text]
   rw [e1, f5]
   exact ⟨k', _, (j3 e2).trans (j3 (by omega)), by omega, by omega⟩
  ·show m6 (j5 n) go k1 (ds.length : Int) a = _
   unfold m6
   rw [if_neg (by omega)]
def nums (k : Int) : Nat → LI
 | 0 => []
 | n + 1 => k :: nums (k + 1) n
theorem nums_len : ∀ (n : Nat) (k : Int), (nums k n).length = n
 | 0, _ => rfl
 | n + 1, k => by simp [nums, nums_len n]
theorem nums_get : ∀ (n : Nat) (k : Int) (i : Nat), i < n → (nums k n)[i]? = some (k + i)
 | 0, _, _, h => by omega
 | n + 1, k, 0, _ => by simp [nums]
 | n + 1, k, i + 1, h => by
  have := nums_get n (k + 1) i (by omega)
  simp only [nums, List.getElem?_cons_succ, this]
  congr 1; omega
end Go.Abs

namespace Go.Abs
open Go.Lib (decDigits itoa nDigits)
theorem nDig_le : ∀ (k u : Nat), u < 10 ^ (k + 1) → nDigits u ≤ k + 1
 | 0, u, h => by rw [Go.Lib.nDigits_small (by simpa using h)]; omega
 | k + 1, u, h => by
  by_cases hu : u < 10
  ·rw [Go.Lib.nDigits_small hu]; omega
  ·rw [Go.Lib.nDigits_big hu]
   have := nDig_le k (u / 10) (by rw [Nat.pow_succ] at h; omega)
   omega
theorem lK (u : Nat) (h : u ≤ 999999999) : (decDigits u).length ≤ 9 := by
 rw [Go.Lib.decDigits_eq, List.length_map, List.length_range]
 exact nDig_le 8 u (by show u < 10 ^ 9; omega)
theorem hU {u : Nat} (h : u < 10) : decDigits u = [UInt8.ofNat (48 + u)] := by rw [decDigits, dif_pos h]
theorem dec_big {u : Nat} (h : ¬ u < 10) : decDigits u = decDigits (u / 10) ++ [UInt8.ofNat (48 + u % 10)] := by rw [decDigits, dif_neg h]
theorem G3 (n : Int) (h : -999999999 ≤ n ∧ n ≤ 999999999) : w7 n = some (itoa n) := by
 unfold w7
 by_cases h0 : n = 0
 ·rw [if_pos h0, h0]
  unfold itoa
  rw [if_neg (by omega), show (0 : Int).toNat = 0 from rfl, hU (by omega)]
  rfl
 rw [if_neg h0]
 have hT := lK n.natAbs (by omega)
 have key := bW (L := M6 n) (fun r => r = itoa n) (fun v => ((v.2 = 0 ∧ v.1 = decDigits n.natAbs) ∨ (v.2 ≠ 0 ∧ decDigits v.2.natAbs ++ v.1 = decDigits n.natAbs)) ∧ ((0 ≤ n ∧ 0 ≤ v.2 ∧ v.2 ≤ n) ∨ (n < 0 ∧ v.2 ≤ 0 ∧ n ≤ v.2))) (fun v => v.2.natAbs) (fun go v hv hgo => ?_) ([], n) ⟨.inr ⟨h0, by simp⟩, by show (0 ≤ n ∧ 0 ≤ n ∧ n ≤ n) ∨ (n < 0 ∧ n ≤ 0 ∧ n ≤ n); omega⟩ (by show n.natAbs < _; omega)
 ·obtain ⟨r, h1, h2⟩ := key; rw [h1, h2]
 ·obtain ⟨out, x⟩ := v
  obtain ⟨h1, h2⟩ := hv
  simp only at h1 h2
  show ∃ r, z6 n go out x = some r ∧ _
  unfold z6
  by_cases hx : x = 0
  ·have ho : out = decDigits n.natAbs := by
    rcases h1 with h1 | h1
    ·exact h1.2
    ·exact absurd hx h1.1
   rw [if_pos hx]
   by_cases hn : n < 0
   ·rw [if_pos hn, j3 (by rw [ho]; simp; omega)]
    refine ⟨_, rfl, ?_⟩
    unfold itoa
    rw [if_pos hn, ho]; rfl
   ·rw [if_neg hn]
    refine ⟨_, rfl, ?_⟩
    unfold itoa
    rw [if_neg hn, ho, show n.natAbs = n.toNat by omega]
  ·have ho : decDigits x.natAbs ++ out = decDigits n.natAbs := by
    rcases h1 with h1 | h1
    ·exact absurd h1.1 hx
    ·exact h1.2
   have hol : out.length ≤ 9 := by
    have := congrArg List.length ho
    rw [List.length_append] at this; omega
   have hx2 : -999999999 ≤ x ∧ x ≤ 999999999 := by omega
   obtain ⟨dg, q, e1, e2, e3, e4⟩ : ∃ dg q : Int, (Int.tmod x 10 = dg ∨ Int.tmod x 10 = -dg) ∧ dg = ((x.natAbs % 10 : Nat) : Int) ∧ Int.tdiv x 10 = q ∧ (q.natAbs = x.natAbs / 10 ∧ ((0 ≤ n ∧ 0 ≤ q ∧ q ≤ n ∧ Int.tmod x 10 = dg) ∨ (n < 0 ∧ q ≤ 0 ∧ n ≤ q ∧ Int.tmod x 10 = -dg))) := by
    rcases h2 with ⟨a1, a2, a3⟩ | ⟨a1, a2, a3⟩
    ·refine ⟨x % 10, x / 10, .inl (Int.tmod_eq_emod_of_nonneg a2), by omega, Int.tdiv_eq_ediv_of_nonneg a2, by omega, .inl ⟨a1, by omega, by omega, Int.tmod_eq_emod_of_nonneg a2⟩⟩
    ·have t1 : Int.tmod x 10 = -((-x) % 10) := by rw [← Int.tmod_eq_emod_of_nonneg (by omega : 0 ≤ -x), Int.neg_tmod, Int.neg_neg]
     have t2 : Int.tdiv x 10 = -((-x) / 10) := by rw [← Int.tdiv_eq_ediv_of_nonneg (by omega : 0 ≤ -x), Int.neg_tdiv, Int.neg_neg]
     exact ⟨(-x) % 10, -((-x) / 10), .inr t1, by omega, t2, by omega, .inr ⟨a1, by omega, by omega, t1⟩⟩
   have hd : 0 ≤ dg ∧ dg ≤ 9 := by omega
   have hJ : ∃ r, s9 out x go dg = some r ∧ r = itoa n := by
    unfold s9
    rw [j3 (show -9223372036854775808 ≤ 48 + dg ∧ 48 + dg ≤ 9223372036854775807 by omega), j3 (by omega), j3 (by simp; omega), j3 (show (-9223372036854775808 ≤ x ∧ x ≤ 9223372036854775807) ∧ (0 : Int) < 10 by omega), e3]
    refine hgo (_, q) ⟨?_, by show (0 ≤ n ∧ 0 ≤ q ∧ q ≤ n) ∨ (n < 0 ∧ q ≤ 0 ∧ n ≤ q); omega⟩ (by show q.natAbs < x.natAbs; omega)
    show (q = 0 ∧ _) ∨ (q ≠ 0 ∧ _)
    have hdn : (48 + dg).toNat = 48 + x.natAbs % 10 := by omega
    rw [hdn]
    by_cases hs : x.natAbs < 10
    ·refine .inl ⟨by omega, ?_⟩
     rw [← ho, hU hs, Nat.mod_eq_of_lt hs]
    ·refine .inr ⟨by omega, ?_⟩
     rw [← ho, dec_big hs, e4.1, List.append_assoc]
   rw [if_neg hx, j3 (show (-9223372036854775808 ≤ x ∧ x ≤ 9223372036854775807) ∧ (0 : Int) < 10 by omega)]
   by_cases hneg : Int.tmod x 10 < 0
   ·have e : -(Int.tmod x 10) = dg := by omega
    rw [if_pos hneg, e, j3 (show -9223372036854775808 ≤ dg ∧ dg ≤ 9223372036854775807 by omega)]
    exact hJ
   ·have e : Int.tmod x 10 = dg := by omega
    rw [if_neg hneg, e]
    exact hJ
theorem M0 (n : Int) (h : -999999999 ≤ n ∧ n ≤ 999999999) : w6 n = some (itoa n) := by
 unfold w6 x_Itoa
 rw [j3 (show -9223372036854775808 ≤ n ∧ n ≤ 9223372036854775807 by omega)]; rfl
theorem lS (n : Int) (h : -999999999 ≤ n ∧ n ≤ 999999999) : (itoa n).length ≤ 10 := by
 unfold itoa
 split
 ·have := lK n.natAbs (by omega); simp; omega
 ·have := lK n.toNat (by omega); omega
end Go.Abs

namespace Go.Abs
open PD
open Go.Lib (itoa)
mutual
def fmtD : PD → LB
 | .mk k n t is => if k = 1 then t else if k = 2 then itoa n else if k = 3 then (if n = 1 then [35, 116] else [35, 102]) else if k = 4 then [34] ++ t ++ [34] else [40] ++ fmtDs true is ++ [41]
def fmtDs : Bool → List PD → LB
 | _, [] => []
 | first, d :: r => (if first then [] else [32]) ++ fmtD d ++ fmtDs false r
end
theorem fmtD_eq (d : PD) : fmtD d = if d.kind = 1 then d.text else if d.kind = 2 then itoa d.number else if d.kind = 3 then (if d.number = 1 then [35, 116] else [35, 102]) else if d.kind = 4 then [34] ++ d.text ++ [34] else [40] ++ fmtDs true d.items ++ [41] := by cases d; rw [fmtD]; rfl
theorem dW (d : PD) : d.okAll = (nodeOK d.kind d.number d.text d.items.length && okAlls d.items) := by cases d; rfl
theorem bY : ∀ {ds : List PD}, okAlls ds = true → ∀ x ∈ ds, x.okAll = true
 | d :: r, h, x, hx => by
  simp only [okAlls, Bool.and_eq_true] at h
  rcases List.mem_cons.1 hx with rfl | hx
  ·exact h.1
  ·exact bY h.2 x hx
theorem gQ {k n m : Int} {t : LB} (h : nodeOK k n t m = true) : (k = 2 → -999999999 ≤ n ∧ n ≤ 999999999) ∧ (k = 3 → n = 0 ∨ n = 1) := by
 unfold nodeOK inside at h
 refine ⟨fun e => ?_, fun e => ?_⟩
 ·rw [if_neg (by omega), if_neg (by omega), if_pos e] at h
  simp at h; omega
 ·rw [if_neg (by omega), if_neg (by omega), if_neg (by omega), if_pos e] at h
  simp at h; omega
theorem lP : (∀ d : PD, d.okAll = true → (fmtD d).length ≤ 16 + 17 * wD d) ∧ ∀ ds : List PD, okAlls ds = true → ∀ b, (fmtDs b ds).length ≤ 17 * wDs ds := by
 refine ind (fun ds h => ?_) (fun d h => ?_)
 ·intro ho
  induction ds with
  | nil => intro b; simp [fmtDs]
  | cons x r ih =>
   intro b
   simp only [okAlls, Bool.and_eq_true] at ho
   have h1 := h x (by simp) ho.1
   have h2 := ih (fun y hy => h y (by simp [hy])) ho.2 false
   unfold fmtDs wDs
   have : (if b = true then ([] : LB) else [32]).length ≤ 1 := by cases b <;> simp
   simp only [List.length_append]
   omega
 ·intro ho
  rw [dW, Bool.and_eq_true] at ho
  rw [fmtD_eq, fN]
  split
  ·omega
  split
  ·rename_i e; have := lS _ ((gQ ho.1).1 e); omega
  split
  ·split <;> simp <;> omega
  split
  ·simp; omega
  ·have := h ho.2 true
   simp only [List.length_append, List.length_singleton]; omega
theorem mT : ∀ (a b : List PD), wDs (a ++ b) = wDs a + wDs b
 | [], b => by simp [wDs]
 | d :: r, b => by rw [List.cons_append, wDs, wDs, mT r b]; omega
theorem wDs_take {ds : List PD} {j : Nat} (h : j < ds.length) : wDs (ds.take (j + 1)) = wDs (ds.take j) + (1 + wD ds[j]) ∧ wDs (ds.take (j + 1)) ≤ wDs ds := by
 refine ⟨?_, ?_⟩
 ·rw [← List.take_append_getElem h, mT]; simp [wDs]
 ·have := mT (ds.take (j + 1)) (ds.drop (j + 1))
  rw [List.take_append_drop] at this; omega
theorem aX : ∀ (n : Nat) (d : PD) (out : LB), d.cnt < n → d.okAll = true → d.small → out.length + 17 * wD d ≤ 1000000000 → j4 n out d = some (out ++ fmtD d)
 | 0, d, _, h, _, _, _ => by omega
 | n + 1, d, out, h, ho, hs, hl => by
  show G9 (j4 n) out d = _
  have ho' := ho
  rw [dW, Bool.and_eq_true] at ho'
  have hw := fN d
  unfold G9
  rw [fmtD_eq]
  by_cases k1 : d.kind = 1
  ·rw [if_pos k1, if_pos k1, j3 (by omega)]
  rw [if_neg k1, if_neg k1]
  by_cases k2 : d.kind = 2
  ·have h2 := (gQ ho'.1).1 k2
   have := lS _ h2
   rw [if_pos k2, if_pos k2, M0 _ h2, f5, j3 (by omega)]
  rw [if_neg k2, if_neg k2]
  by_cases k3 : d.kind = 3
  ·rw [if_pos k3, if_pos k3]
   split
   ·rw [j3 (by simp; omega)]
   ·rw [j3 (by simp; omega)]
  rw [if_neg k3, if_neg k3]
  by_cases k4 : d.kind = 4
  ·rw [if_pos k4, if_pos k4, j3 (by simp; omega), j3 (by simp; omega), j3 (by simp; omega)]; simp
  rw [if_neg k4, if_neg k4, j3 (by simp; omega)]
  have hsl := K9 hs
  have hfl := lP.2 d.items ho'.2
  have key := bW (L := Q9 (j4 n) d) (fun r => r = out ++ ([40] ++ fmtDs true d.items ++ [41])) (fun v => 0 ≤ v.1 ∧ v.1 ≤ d.items.length ∧ v.2 ++ fmtDs (decide (v.1 = 0)) (d.items.drop v.1.toNat) = out ++ ([40] ++ fmtDs true d.items) ∧ v.2.length ≤ out.length + 1 + 17 * wDs (d.items.take v.1.toNat)) (fun v => d.items.length - v.1.toNat) (fun go v hv hgo => ?_) (0, out ++ [40]) ⟨by show (0 : Int) ≤ 0; omega, by show (0 : Int) ≤ _; omega, by simp, by simp⟩ (by show d.items.length - 0 < _; omega)
  ·obtain ⟨r, e1, e2⟩ := key; rw [e1, e2]
  ·obtain ⟨i, o⟩ := v
   obtain ⟨h1, h2, h3, h4⟩ := hv
   simp only at h1 h2 h3 h4
   obtain ⟨j, rfl⟩ := Int.eq_ofNat_of_zero_le h1
   simp only [Int.ofNat_eq_natCast, Int.toNat_natCast] at *
   show ∃ r, D6 (j4 n) d go (j : Int) o = some r ∧ _
   unfold D6
   by_cases hj : j < d.items.length
   ·rw [if_pos (by omega), l6 hj, f5]
    have hd := List.drop_eq_getElem_cons hj
    rw [hd, fmtDs] at h3
    obtain ⟨wt1, wt2⟩ := wDs_take hj
    have hxl := lP.1 _ (bY ho'.2 _ (List.getElem_mem hj))
    have hwm := bO (List.getElem_mem hj)
    have hxo := bY ho'.2 _ (List.getElem_mem hj)
    have hxs := (q8 hs hj).1
    have hxc : d.items[j].cnt < n := by have := (q8 hs hj).2; omega
    have fin : ∀ o2 : LB, o2 = o ++ (if decide ((j : Int) = 0) = true then [] else [32]) → ∃ r, w9 (j4 n) (j : Int) go d.items[j] o2 = some r ∧ r = out ++ ([40] ++ fmtDs true d.items ++ [41]) := by
     intro o2 e
     have ho2 : o2.length ≤ o.length + 1 := by rw [e]; simp only [List.length_append]; split <;> simp
     unfold w9
     rw [aX n _ o2 hxc hxo hxs (by omega), f5, j3 (show -9223372036854775808 ≤ (j : Int) + 1 ∧ (j : Int) + 1 ≤ 9223372036854775807 by omega)]
     have e1 : ((j : Int) + 1).toNat = j + 1 := by omega
     refine hgo _ ⟨by show (0 : Int) ≤ (j : Int) + 1; omega, by show (j : Int) + 1 ≤ _; omega, ?_, by show (o2 ++ fmtD d.items[j]).length ≤ _ + 17 * wDs (d.items.take ((j : Int) + 1).toNat); rw [e1, List.length_append]; omega⟩ (by show d.items.length - ((j : Int) + 1).toNat < d.items.length - (j : Int).toNat; omega)
     have e2 : decide ((j : Int) + 1 = 0) = false := by simp; omega
     show (o2 ++ fmtD d.items[j]) ++ fmtDs (decide ((j : Int) + 1 = 0)) (d.items.drop ((j : Int) + 1).toNat) = _
     rw [e1, e2, e, ← h3]; simp only [List.append_assoc]
    by_cases hj0 : (j : Int) > 0
    ·rw [if_pos hj0, j3 (by simp; omega)]
     exact fin _ (by rw [if_neg (by simp; omega)])
    ·rw [if_neg hj0]
     exact fin _ (by rw [if_pos (by simp; omega)]; simp)
   ·have ht : d.items.take j = d.items := List.take_of_length_le (by omega)
    rw [ht] at h4
    rw [if_neg (by omega), j3 (by simp; omega)]
    refine ⟨_, rfl, ?_⟩
    rw [List.drop_eq_nil_of_le (by omega)] at h3
    have e : fmtDs (decide ((j : Int) = 0)) [] = [] := by unfold fmtDs; rfl
    rw [e, List.append_nil] at h3
    rw [h3]; simp
theorem gC (d : PD) (hv : d.valid = true) (hw : wD d ≤ 1048576) : K1 d = some (fmtD d) := by
 have hs := eO hw
 unfold K1
 have ho : d.okAll = true := by
  unfold valid at hv; simp only [Bool.and_eq_true] at hv; exact hv.2.2
 rw [fQ d hs, f5, if_pos hv, aX RF d [] (RF_cnt hs) ho hs (by simp; omega), f5]; rfl
def joinT : Bool → List (LB) → LB
 | _, [] => []
 | first, t :: r => (if first then [] else [32]) ++ t ++ joinT false r
theorem s_l1Join_eq (ts : List (LB)) (hn : ts.length ≤ 1048576) (hl : (joinT true ts).length ≤ 1000000000) : eF ts [32] = some (joinT true ts) := by
 unfold eF
 have key := bW (L := cV ts [32]) (fun r => r = joinT true ts) (fun v => 0 ≤ v.2 ∧ v.2 ≤ ts.length ∧ v.1 ++ joinT (decide (v.2 = 0)) (ts.drop v.2.toNat) = joinT true ts) (fun v => ts.length - v.2.toNat) (fun go v hv hgo => ?_) ([], 0) ⟨by show (0 : Int) ≤ 0; omega, by show (0 : Int) ≤ _; omega, by simp⟩ (by show ts.length - 0 < _; omega)
 ·obtain ⟨r, e1, e2⟩ := key; rw [e1, e2]
 ·obtain ⟨o, i⟩ := v
  obtain ⟨h1, h2, h3⟩ := hv
  simp only at h1 h2 h3
  obtain ⟨j, rfl⟩ := Int.eq_ofNat_of_zero_le h1
  simp only [Int.ofNat_eq_natCast, Int.toNat_natCast] at *
  show ∃ r, O0 ts [32] go o (j : Int) = some r ∧ _
  unfold O0
  have hol := congrArg List.length h3
  by_cases hj : j < ts.length
  ·rw [if_pos (by omega), l6 hj, f5]
   rw [List.drop_eq_getElem_cons hj, joinT] at h3 hol
   simp only [List.length_append] at hol
   have fin : ∀ o2 : LB, o2 = o ++ (if decide ((j : Int) = 0) = true then [] else [32]) → ∃ r, J1 (j : Int) go ts[j] o2 = some r ∧ r = joinT true ts := by
    intro o2 e
    have ho2 : o2.length ≤ o.length + 1 := by rw [e]; simp only [List.length_append]; split <;> simp
    unfold J1
    rw [j3 (by omega), j3 (show -9223372036854775808 ≤ (j : Int) + 1 ∧ (j : Int) + 1 ≤ 9223372036854775807 by omega)]
    refine hgo _ ⟨by show (0 : Int) ≤ (j : Int) + 1; omega, by show (j : Int) + 1 ≤ _; omega, ?_⟩ (by show ts.length - ((j : Int) + 1).toNat < ts.length - (j : Int).toNat; omega)
    have e1 : ((j : Int) + 1).toNat = j + 1 := by omega
    have e2 : decide ((j : Int) + 1 = 0) = false := by simp; omega
    show (o2 ++ ts[j]) ++ joinT (decide ((j : Int) + 1 = 0)) (ts.drop ((j : Int) + 1).toNat) = _
    rw [e1, e2, e, ← h3]; simp only [List.append_assoc]
   by_cases hj0 : (j : Int) > 0
   ·rw [if_pos hj0, j3 (by simp; omega)]
    exact fin _ (by rw [if_neg (by simp; omega)])
   ·rw [if_neg hj0]
    exact fin _ (by rw [if_pos (by simp; omega)]; simp)
  ·rw [if_neg (by omega)]
   refine ⟨_, rfl, ?_⟩
   rw [List.drop_eq_nil_of_le (by omega)] at h3
   have e : joinT (decide ((j : Int) = 0)) [] = [] := rfl
   rw [e, List.append_nil] at h3
   exact h3
theorem lU : ∀ (b : Bool) (ds : List PD), joinT b (ds.map fmtD) = fmtDs b ds
 | _, [] => by unfold fmtDs; rfl
 | b, d :: r => by rw [List.map_cons, joinT, fmtDs, lU false r]
theorem eD : ∀ (n : Nat) (d : PD), d.cnt < n → d.okAll = true → d.small → wD d ≤ 1048576 → m8 n d = some (fmtD d)
 | 0, d, h, _, _, _ => by omega
 | n + 1, d, h, ho, hs, hl => by
  show N9 (m8 n) d = _
  have ho' := ho
  rw [dW, Bool.and_eq_true] at ho'
  have hw := fN d
  unfold N9
  rw [fmtD_eq]
  by_cases k1 : d.kind = 1
  ·rw [if_pos k1, if_pos k1]
  rw [if_neg k1, if_neg k1]
  by_cases k2 : d.kind = 2
  ·have h2 := (gQ ho'.1).1 k2
   rw [if_pos k2, if_pos k2, G3 _ h2, f5]
  rw [if_neg k2, if_neg k2]
  by_cases k3 : d.kind = 3
  ·rw [if_pos k3, if_pos k3]
   rcases (gQ ho'.1).2 k3 with e | e
   ·rw [if_neg (by omega), e]; rfl
   ·rw [if_pos e, e]; rfl
  rw [if_neg k3, if_neg k3]
  by_cases k4 : d.kind = 4
  ·rw [if_pos k4, if_pos k4, j3 (by simp; omega), j3 (by simp; omega)]
  rw [if_neg k4, if_neg k4]
  have hsl := K9 hs
  have hfl := lP.2 d.items ho'.2 true
  have key := bW (L := Y4 (m8 n) d) (fun r => r = [40] ++ fmtDs true d.items ++ [41]) (fun v => 0 ≤ v.1 ∧ v.1 ≤ d.items.length ∧ v.2 = (d.items.take v.1.toNat).map fmtD) (fun v => d.items.length - v.1.toNat) (fun go v hv hgo => ?_) (0, []) ⟨by show (0 : Int) ≤ 0; omega, by show (0 : Int) ≤ _; omega, by simp⟩ (by show d.items.length - 0 < _; omega)
  ·obtain ⟨r, e1, e2⟩ := key; rw [e1, e2]
  ·obtain ⟨i, ps⟩ := v
   obtain ⟨h1, h2, h3⟩ := hv
   simp only at h1 h2 h3
   obtain ⟨j, rfl⟩ := Int.eq_ofNat_of_zero_le h1
   simp only [Int.ofNat_eq_natCast, Int.toNat_natCast] at *
   show ∃ r, I1 (m8 n) d go (j : Int) ps = some r ∧ _
   unfold I1
   by_cases hj : j < d.items.length
   ·have hwm := bO (List.getElem_mem hj)
    rw [if_pos (by omega), l6 hj, f5, eD n _ (by have := (q8 hs hj).2; omega) (bY ho'.2 _ (List.getElem_mem hj)) (q8 hs hj).1 (by omega), f5, j3 (by rw [h3]; simp; omega), j3 (show -9223372036854775808 ≤ (j : Int) + 1 ∧ (j : Int) + 1 ≤ 9223372036854775807 by omega)]
    refine hgo _ ⟨by show (0 : Int) ≤ (j : Int) + 1; omega, by show (j : Int) + 1 ≤ _; omega, ?_⟩ (by show d.items.length - ((j : Int) + 1).toNat < d.items.length - (j : Int).toNat; omega)
    have e1 : ((j : Int) + 1).toNat = j + 1 := by omega
    show ps ++ [fmtD d.items[j]] = (d.items.take ((j : Int) + 1).toNat).map fmtD
    rw [e1, h3, ← List.take_append_getElem hj, List.map_append]; rfl
   ·have e : ps = d.items.map fmtD := by rw [h3, List.take_of_length_le (by omega)]
    rw [if_neg (by omega), s_l1Join_eq ps (by rw [e]; simp; omega) (by rw [e, lU]; omega), f5, e, lU, j3 (by simp; omega), j3 (by simp; omega)]
    exact ⟨_, rfl, rfl⟩
theorem opNames_len : ∀ i : Nat, i < 20 → ∃ t, nth A1 (i : Int) = some t ∧ t.length ≤ 20
 | 0, _ => ⟨_, rfl, by decide⟩ | 1, _ => ⟨_, rfl, by decide⟩ | 2, _ => ⟨_, rfl, by decide⟩ | 3, _ => ⟨_, rfl, by decide⟩ | 4, _ => ⟨_, rfl, by decide⟩
 | 5, _ => ⟨_, rfl, by decide⟩ | 6, _ => ⟨_, rfl, by decide⟩ | 7, _ => ⟨_, rfl, by decide⟩ | 8, _ => ⟨_, rfl, by decide⟩ | 9, _ => ⟨_, rfl, by decide⟩
 | 10, _ => ⟨_, rfl, by decide⟩ | 11, _ => ⟨_, rfl, by decide⟩ | 12, _ => ⟨_, rfl, by decide⟩ | 13, _ => ⟨_, rfl, by decide⟩ | 14, _ => ⟨_, rfl, by decide⟩
 | 15, _ => ⟨_, rfl, by decide⟩ | 16, _ => ⟨_, rfl, by decide⟩ | 17, _ => ⟨_, rfl, by decide⟩ | 18, _ => ⟨_, rfl, by decide⟩ | 19, _ => ⟨_, rfl, by decide⟩
 | n + 20, h => by omega
theorem OpName_eq (op : Int) (h : 1 ≤ op ∧ op ≤ 20) : ∃ t, O9 op = some t ∧ T6 op = some t ∧ t.length ≤ 20 := by
 obtain ⟨i, hi⟩ : ∃ i : Nat, op - 1 = (i : Int) := ⟨(op - 1).toNat, by omega⟩
 obtain ⟨t, e1, e2⟩ := opNames_len i (by omega)
 have c : I64 (op - 1) := show -9223372036854775808 ≤ op - 1 ∧ op - 1 ≤ 9223372036854775807 by omega
 refine ⟨t, ?_, ?_, e2⟩
 ·unfold O9
  rw [if_neg (by omega), if_neg (by omega), j3 c, hi, e1, f5]
 ·unfold T6
  have hin : V9 op 1 20 = some true := by unfold V9; rw [if_pos (by omega)]; simp; omega
  rw [hin, f5, if_pos rfl, j3 c, hi]
  show bnd (nth A1 (i : Int)) _ = _
  rw [e1, f5]
theorem FormatInstr_eq (x : PInstr) (hw : wD x.d ≤ 1048576) : ∃ t, C5 x = some t ∧ C9 x = some t ∧ (instrOK x = true → t.length ≤ 20 + 1 + 17 * 1048576 + 16) := by
 have hs := eO hw
 unfold C5 C9
 rw [nY x hs, mL x hs, f5, f5]
 cases hok : instrOK x
 ·exact ⟨_, rfl, rfl, fun h => by cases h⟩
 rw [if_pos rfl, if_pos rfl]
 unfold instrOK inside at hok
 rw [Bool.and_eq_true] at hok
 have hop : 1 ≤ x.op ∧ x.op ≤ 20 := by simpa using hok.1
 obtain ⟨t, e1, e2, e3⟩ := OpName_eq x.op hop
 by_cases h1 : x.op = 1
 ·rw [if_pos h1] at hok
  have hv : x.d.valid = true := by have := hok.2; simp only [Bool.and_eq_true] at this; exact this.2
  have ho : x.d.okAll = true := by
   unfold valid at hv; simp only [Bool.and_eq_true] at hv; exact hv.2.2
  have hl := lP.1 x.d ho
  rw [if_pos h1, if_pos h1, e1, f5, e2, f5, j3 (by simp; omega), j3 (by simp; omega), gC x.d hv hw, f5, eD RF x.d (RF_cnt hs) ho hs hw, f5, j3 (by simp; omega)]
  exact ⟨_, rfl, rfl, fun _ => by simp; omega⟩
 ·rw [if_neg h1] at hok
  have ha : 0 ≤ x.a ∧ x.a ≤ 4000 := by
   have := hok.2; simp only [Bool.and_eq_true] at this; simpa using this.2.1
  have hi := lS x.a (by omega)
  rw [if_neg h1, if_neg h1]
  unfold P9
  by_cases h14 : x.op = 14
  ·rw [if_pos h14, if_pos h14, f5, if_pos rfl, e1, e2, f5]
   exact ⟨_, rfl, rfl, fun _ => by omega⟩
  rw [if_neg h14, if_neg h14, f5]
  by_cases h17 : x.op = 17
  ·rw [if_pos h17, if_pos (by simp [h17]), e1, e2, f5]
   exact ⟨_, rfl, rfl, fun _ => by omega⟩
  rw [if_neg h17, if_neg (by simp [h17]), e1, e2, f5, f5, j3 (by simp; omega), j3 (by simp; omega), M0 _ (by omega), G3 _ (by omega), f5, j3 (by simp; omega)]
  exact ⟨_, rfl, rfl, fun _ => by simp; omega⟩
end Go.Abs
