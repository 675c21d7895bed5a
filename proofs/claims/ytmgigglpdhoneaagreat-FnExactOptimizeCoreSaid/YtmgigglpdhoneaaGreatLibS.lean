
import Derived.Test.YtmgigglpdhoneaaGreatLibP
import Derived.Test.YtmgigglpdhoneaaGreatLibF
set_option linter.unusedVariables false
set_option linter.unusedSimpArgs false
namespace Go.Abs
def symI (b : Int) : Bool := (decide (97 ≤ b) && decide (b ≤ 122)) || (decide (48 ≤ b) && decide (b ≤ 57)) || markOdd.contains b
theorem symI_b (b : UInt8) : symI b.toNat = markB b := rfl
theorem i_isDigit_eq (b : Int) : hC b = some (decide (48 ≤ b) && decide (b ≤ 57)) := by
 unfold hC
 by_cases h : 48 ≤ b <;> simp [h]
theorem uS (b : Int) : cC b = some (decide (48 ≤ b) && decide (b ≤ 57)) := by
 unfold cC
 by_cases h : 48 ≤ b <;> simp [h]
theorem rJ (b : Int) (x : Bool) : C6 b x = some (x || markOdd.contains b) := by
 unfold C6
 cases x
 ·by_cases h : markOdd.contains b = true
  ·simp only [markOdd, List.contains_cons, Bool.or_eq_true, beq_iff_eq, List.contains_nil] at h
   rcases h with h | h | h | h | h | h | h | h | h | h | h | h
   all_goals first | (subst h; rfl) | cases h
  ·have h' : markOdd.contains b = false := by simpa using h
   simp only [markOdd, List.contains_cons, Bool.or_eq_true, beq_iff_eq, List.contains_nil, not_or] at h
   rw [h']
   simp [h]
 ·rfl
theorem xX (b : Int) : cA b = some (symI b) := by
 unfold cA symI
 simp only [rJ]
 by_cases h1 : 97 ≤ b <;> by_cases h2 : b ≤ 122 <;> by_cases h3 : 48 ≤ b <;> simp [h1, h2, h3]
theorem aa9 (b : Int) (x : Bool) : V0 b x = some (x || markOdd.contains b) := by
 unfold V0
 cases x
 ·simp only [Bool.false_eq_true, if_false, Bool.false_or]
  have := dW (L := pO b) 11 (fun i => some ((markTab.drop i).any fun c => decide (((c.toNat : Nat) : Int) = b))) (by omega) (fun go i hi hgo => ?_) (fun go => ?_)
  ·rw [this, List.drop_zero, markTab_any]
  ·show aA b go i = _
   unfold aA
   have hl : i < markTab.length := hi
   have hl' : (i : Int) < 11 := by omega
   simp only [show ([33, 63, 42, 60, 62, 61, 47, 43, 45, 46, 95] : LB) = markTab from rfl, show (markTab.length : Int) = 11 from rfl, hl', if_true, t9 hl, g9]
   rw [m8 (by omega), hgo, List.drop_eq_getElem_cons hl, List.any_cons]
   by_cases h : (markTab[i].toNat : Int) = b <;> simp [h]
  ·show aA b go ((11 : Nat) : Int) = _
   rfl
 ·rfl
theorem s_l1Mark_eq (b : Int) : rX b = some (symI b) := by
 unfold rX symI
 simp only [aa9, uS, g9]
 by_cases h1 : 97 ≤ b <;> by_cases h2 : b ≤ 122 <;> simp [h1, h2]
def SM (l : LB) : Prop := l.length ≤ 9223372036854775806
theorem xL (s : LB) (h : SM s) : itr (jC s) LF 0 = some (s.all markB) := by
 rw [yA s markB (some true) (some false) (by unfold SM at h; omega) (fun go i hi => ?_) (fun go => ?_)]
 ·cases s.all markB <;> rfl
 ·show L7 s go i = _
  unfold L7 SM at *
  simp only [show ((i : Int) < (s.length : Int)) from by omega, if_true, t9 hi, g9, xX, symI_b]
  rw [m8 (by omega)]
 ·show L7 s go _ = _
  unfold L7
  simp
theorem zB (s : LB) (h : SM s) : itr (jY s) LF 0 = some (s.all markB) := by
 rw [yA s markB (some true) (some false) (by unfold SM at h; omega) (fun go i hi => ?_) (fun go => ?_)]
 ·cases s.all markB <;> rfl
 ·show M6 s go i = _
  unfold M6 SM at *
  simp only [show ((i : Int) < (s.length : Int)) from by omega, if_true, t9 hi, g9, s_l1Mark_eq, symI_b]
  rw [m8 (by omega)]
 ·show M6 s go _ = _
  unfold M6
  simp
theorem af5 (s : LB) (h : SM s) : gX s = some (isSymbol s) := by
 unfold gX
 have hJ : ∀ b, D2 s b = some (!b && s.all markB) := fun b => by
  unfold D2
  cases b
  ·simp [xL s h]
  ·rfl
 simp only [hJ, i_isDigit_eq, g9]
 unfold isSymbol headBad isDigit
 by_cases h1 : (s.length : Int) < 1
 ·simp [h1]
 ·by_cases h2 : (s.length : Int) > 16
  ·simp [h1, h2]
  ·have hl : 0 < s.length := by omega
   have e0 : nth s 0 = some (s.getD 0 0) := by rw [show (0 : Int) = ((0 : Nat) : Int) from rfl, t9 hl]; simp [List.getD, List.getElem?_eq_getElem hl]
   simp only [h1, h2, if_false, e0, g9]
   generalize s.getD 0 0 = b0
   by_cases h3 : (decide (48 ≤ (b0.toNat : Int)) && decide ((b0.toNat : Int) ≤ 57)) = true
   ·simp [h3]
   ·simp only [h3, if_false]
    by_cases h4 : (b0.toNat : Int) = 45
    ·by_cases h5 : (s.length : Int) > 1
     ·have hl1 : 1 < s.length := by omega
      have e1 : nth s 1 = some (s.getD 1 0) := by rw [show (1 : Int) = ((1 : Nat) : Int) from rfl, t9 hl1]; simp [List.getD, List.getElem?_eq_getElem hl1]
      simp [h4, h5, e1]
     ·simp [h4, h5]
    ·simp [h4]
theorem U9 (x a b : Int) : aW x a b = some (inside x a b) := by
 unfold aW inside
 by_cases h : a ≤ x <;> simp [h]
theorem ah8 (s : LB) (h : SM s) : iB s = some (isSymbol s) := by
 unfold iB
 have hJ : ∀ b, F6 s b = some (!b && s.all markB) := fun b => by
  unfold F6
  cases b
  ·simp [zB s h]
  ·rfl
 simp only [hJ, uS, g9, U9]
 unfold isSymbol headBad isDigit inside
 by_cases h1 : (s.length : Int) < 1
 ·have h1' : (decide (1 ≤ (s.length : Int))) = false := by simp; omega
  simp [h1, h1']
 ·by_cases h2 : (s.length : Int) > 16
  ·simp [h1, h2]; omega
  ·have hl : 0 < s.length := by omega
   have e0 : nth s 0 = some (s.getD 0 0) := by rw [show (0 : Int) = ((0 : Nat) : Int) from rfl, t9 hl]; simp [List.getD, List.getElem?_eq_getElem hl]
   have h1' : 1 ≤ (s.length : Int) := by omega
   have h2' : (s.length : Int) ≤ 16 := by omega
   simp only [h1', h2', h1, h2, decide_true, Bool.and_self, if_true, e0, g9]
   generalize s.getD 0 0 = b0
   by_cases h3 : (decide (48 ≤ (b0.toNat : Int)) && decide ((b0.toNat : Int) ≤ 57)) = true
   ·simp [h3]
   ·simp only [h3, if_false]
    by_cases h4 : (b0.toNat : Int) = 45
    ·by_cases h5 : (s.length : Int) > 1
     ·have hl1 : 1 < s.length := by omega
      have e1 : nth s 1 = some (s.getD 1 0) := by rw [show (1 : Int) = ((1 : Nat) : Int) from rfl, t9 hl1]; simp [List.getD, List.getElem?_eq_getElem hl1]
      simp [h4, h5, e1]
     ·simp [h4, h5]
    ·simp [h4]
theorem xV (s : LB) (h : SM s) : bZ s = some (isText s) := by
 unfold bZ isText
 have hL : itr (dT s) LF 0 = some (s.all fun b => !badChar b) := by
  rw [yA s (fun b => !badChar b) (some true) (some false) (by unfold SM at h; omega) (fun go i hi => ?_) (fun go => ?_)]
  ·cases (s.all fun b => !badChar b) <;> rfl
  ·show G7 s go i = _
   unfold G7 SM at *
   simp only [show ((i : Int) < (s.length : Int)) from by omega, if_true, t9 hi, g9]
   rw [m8 (by omega)]
   unfold badChar
   by_cases h1 : (s[i].toNat : Int) < 32 <;> by_cases h2 : (s[i].toNat : Int) > 126 <;> by_cases h3 : (s[i].toNat : Int) = 34 <;> simp [h1, h2, h3]
  ·show G7 s go _ = _
   unfold G7
   simp
 rw [hL]
 by_cases h1 : (s.length : Int) > 20
 ·have : (decide ((s.length : Int) ≤ 20)) = false := by simp; omega
  simp [h1, this]
 ·have : (s.length : Int) ≤ 20 := by omega
  simp [h1]; omega
theorem ai2 (s : LB) (h : SM s) : iD s = some (isText s) := by
 unfold iD isText
 rw [yA s (fun b => !badChar b) (some (decide ((s.length : Int) ≤ 20))) (some false) (by unfold SM at h; omega) (fun go i hi => ?_) (fun go => ?_)]
 ·cases (s.all fun b => !badChar b) <;> simp
 ·show M7 s go i = _
  unfold M7 SM at *
  simp only [show ((i : Int) < (s.length : Int)) from by omega, if_true, t9 hi, g9]
  rw [m8 (by omega)]
  unfold badChar
  by_cases h1 : (s[i].toNat : Int) < 32 <;> by_cases h2 : (s[i].toNat : Int) > 126 <;> by_cases h3 : (s[i].toNat : Int) = 34 <;> simp [h1, h2, h3]
 ·show M7 s go _ = _
  unfold M7
  simp
theorem aa2 (k n : Int) (t : LB) (m : Int) (h : SM t) : dS k n t m = some (PD.nodeOK k n t m) := by
 unfold dS PD.nodeOK inside
 simp only [af5 t h, xV t h, g9]
 repeat' split
 all_goals simp_all <;> omega
theorem s_l1Node_eq (k n : Int) (t : LB) (m : Int) (h : SM t) : rY k n t m = some (PD.nodeOK k n t m) := by
 unfold rY PD.nodeOK
 simp only [ah8 t h, ai2 t h, U9, g9]
 repeat' split
 all_goals simp_all <;> omega
end Go.Abs

namespace Go.Abs
open PD
theorem small_SM {d : PD} (h : d.small) : SM d.text := by
 have := ((aj4 d).1 h.1).1
 unfold SM; omega
theorem cK {d : PD} (h : d.small) : d.items.length ≤ 1048576 := by
 have h1 := cnts_len d.items
 have h2 := h.2
 rw [cnt_eq] at h2
 omega
theorem G1 {d : PD} (h : d.small) {i : Nat} (hi : i < d.items.length) : (d.items[i]).small ∧ (d.items[i]).cnt < d.cnt :=
 ⟨small_item h (List.getElem_mem hi), ae6 (List.getElem_mem hi)⟩
theorem eq_loop {E : PD → PD → Option Bool} {L : (Int → Option Bool) → Int → Option Bool} (a b : PD) (hl : a.items.length = b.items.length) (hn : a.items.length ≤ 1048576)
 (hE : ∀ i (h : i < a.items.length) (h2 : i < b.items.length), E a.items[i] b.items[i] = some (eqb a.items[i] b.items[i]))
 (hL : ∀ go (i : Int), L go i = if i < (a.items.length : Int) then bnd (nth a.items i) fun x => bnd (nth b.items i) fun y => bnd (E x y) fun e => if e = true then chk (I64 (i + 1)) (go (i + 1)) else some false else some true) :
 itr L LF 0 = some (eqbs a.items b.items) := by
 rw [dW (L := L) a.items.length (fun i => some (eqbs (a.items.drop i) (b.items.drop i))) (by omega) (fun go i hi hgo => ?_) (fun go => ?_)]
 ·rfl
 ·have hi2 : i < b.items.length := by omega
  rw [hL, if_pos (by omega), t9 hi, t9 hi2]
  simp only [g9, hE i hi hi2]
  rw [m8 (by omega), hgo, List.drop_eq_getElem_cons hi, List.drop_eq_getElem_cons hi2, eqbs]
  cases eqb a.items[i] b.items[i] <;> simp
 ·rw [hL, if_neg (by omega), List.drop_length, hl, List.drop_length]; rfl
theorem oB : ∀ (n : Nat) (a b : PD), a.cnt < n → a.small → w9 n a b = some (eqb a b)
 | 0, a, b, h, _ => by omega
 | n + 1, a, b, h, ha => by
  show aF (w9 n) a b = _
  unfold aF
  rw [eqb_eq]
  by_cases h1 : a.kind = b.kind <;> by_cases h2 : a.number = b.number <;> by_cases h3 : a.text = b.text <;> simp only [h1, h2, h3, if_true, if_false, decide_true, decide_false, Bool.true_and, Bool.false_and]
  by_cases h4 : a.items.length = b.items.length
  ·rw [if_pos (by omega), eq_loop (L := gG (w9 n) a b) a b h4 (cK ha) (E := w9 n) (fun i hi hi2 => oB n _ _ (by have := (G1 ha hi).2; omega) (G1 ha hi).1) (fun go i => rfl)]
  ·rw [if_neg (by omega)]
   cases he : eqbs a.items b.items
   ·rfl
   ·exact absurd (af0 he) h4
theorem oI : ∀ (n : Nat) (a b : PD), a.cnt < n → a.small → y7 n a b = some (eqb a b)
 | 0, a, b, h, _ => by omega
 | n + 1, a, b, h, ha => by
  show aQ (y7 n) a b = _
  unfold aQ
  rw [eqb_eq]
  by_cases h1 : a.kind = b.kind <;> by_cases h2 : a.number = b.number <;> by_cases h3 : a.text = b.text <;> simp only [h1, h2, h3, if_true, if_false, decide_true, decide_false, Bool.true_and, Bool.false_and]
  by_cases h4 : a.items.length = b.items.length
  ·rw [if_pos (by omega), eq_loop (L := gL (y7 n) a b) a b h4 (cK ha) (E := y7 n) (fun i hi hi2 => oI n _ _ (by have := (G1 ha hi).2; omega) (G1 ha hi).1) (fun go i => rfl)]
  ·rw [if_neg (by omega)]
   cases he : eqbs a.items b.items
   ·rfl
   ·exact absurd (af0 he) h4
mutual
theorem eqb_true : ∀ {a b : PD}, eqb a b = true → a = b
 | .mk k n t is, .mk k' n' t' is', h => by
  simp only [eqb, Bool.and_eq_true, decide_eq_true_eq] at h
  obtain ⟨rfl, rfl, rfl, h⟩ := h
  rw [eqbs_true h]
theorem eqbs_true : ∀ {a b : List PD}, eqbs a b = true → a = b
 | [], [], _ => rfl
 | x :: r, y :: s, h => by
  simp only [eqbs, Bool.and_eq_true] at h
  rw [eqb_true h.1, eqbs_true h.2]
 | [], _ :: _, h => by simp [eqbs] at h
 | _ :: _, [], h => by simp [eqbs] at h
end
theorem RF_cnt {d : PD} (h : d.small) : d.cnt < RF := by rw [RF_eq]; have := h.2; omega
theorem uL : ∀ (n : Nat) (d : PD) (deep nodes : Int), d.cnt < n → d.small → 0 ≤ deep → deep ≤ 21 → 0 ≤ nodes → nodes ≤ 600 → B2 n d deep nodes = some (meas d deep nodes)
 | 0, d, _, _, h, _, _, _, _, _ => by omega
 | n + 1, d, deep, nodes, h, hd, h1, h2, h3, h4 => by
  show dP (B2 n) d deep nodes = _
  unfold dP
  rw [meas_eq, m8 (by omega)]
  by_cases h5 : deep > 20
  ·rw [if_pos h5, if_pos (.inl h5)]
  ·rw [if_neg h5]
   by_cases h6 : nodes + 1 > 600
   ·rw [if_pos h6, if_pos (.inr (.inl h6))]
   ·rw [if_neg h6, aa2 _ _ _ _ (small_SM hd)]
    simp only [g9]
    cases h7 : nodeOK d.kind d.number d.text d.items.length
    ·simp
    ·rw [if_pos rfl, if_neg (by simp; omega)]
     have hs := cK hd
     rw [F4 (L := lU (B2 n) d deep) d.items.length (fun i a => 0 ≤ a ∧ a ≤ 600) (fun i a => some (measL (d.items.drop i) (deep + 1) a)) (by omega) (fun go i a hi ha hgo => ?_) (fun go a ha => ?_) (by omega)]
     ·rfl
     ·show P5 (B2 n) d deep go i a = _
      unfold P5
      rw [if_pos (by omega), t9 hi]
      simp only [g9]
      rw [m8 (by omega), uL n _ _ _ (by have := (G1 hd hi).2; omega) (G1 hd hi).1 (by omega) (by omega) ha.1 ha.2]
      simp only [g9]
      rw [List.drop_eq_getElem_cons hi, measL]
      by_cases h8 : (meas d.items[i] (deep + 1) a).1 = true
      ·rw [if_pos h8, if_pos h8, m8 (by omega), hgo]
       have := (lW.1 d.items[i] (deep + 1) a)
       have h9 := this.1.1 h8
       have h10 := this.2 h8
       omega
      ·rw [if_neg h8, if_neg h8]
     ·show P5 (B2 n) d deep go _ a = _
      unfold P5
      rw [if_neg (by omega), List.drop_length]; rfl
theorem i_IsDatum_eq (d : PD) (h : d.small) : lP d = some d.valid := by
 unfold lP
 rw [uL RF d 1 0 (RF_cnt h) h (by omega) (by omega) (by omega) (by omega)]
 simp only [g9, meas_valid]
theorem s_l1Few_eq (n : Nat) : ∀ (d : PD) (left : Int), d.cnt < n → d.small → 0 ≤ left → left ≤ 600 → F0 n d left = some (decide (0 ≤ few d left), few d left) := by
 induction n with
 | zero => intro d _ h; omega
 | succ n ih =>
  intro d left h hd h1 h2
  show mM (F0 n) d left = _
  unfold mM
  rw [few_eq, m8 (by omega)]
  have hs := cK hd
  rw [F4 (L := tU (F0 n) d) d.items.length (fun i a => -1 ≤ a ∧ a ≤ 600) (fun i a => some (decide (0 ≤ fews (d.items.drop i) a), fews (d.items.drop i) a)) (by omega) (fun go i a hi ha hgo => ?_) (fun go a ha => ?_) (by omega)]
  ·rw [List.drop_zero]
  ·show Z1 (F0 n) d go i a = _
   unfold Z1 bE
   rw [if_pos (by omega), List.drop_eq_getElem_cons hi, fews]
   by_cases h0 : 0 ≤ a
   ·rw [if_pos (by simpa using h0), if_pos h0, t9 hi]
    rw [g9]
    rw [ih _ _ (by have := (G1 hd hi).2; omega) (G1 hd hi).1 h0 ha.2]
    rw [g9]
    have := (qW.1 d.items[i] a h0).1
    generalize few d.items[i] a = z at this ⊢
    rw [m8 (by omega), hgo _ (by omega)]
   ·rw [if_neg (by simpa using h0), if_neg h0]
  ·show Z1 (F0 n) d go _ a = _
   unfold Z1 bE
   rw [if_neg (by omega), List.drop_length]
   simp only [fews, Bool.false_eq_true, if_false]
   rfl
theorem s_DepthOf_eq (n : Nat) : ∀ (d : PD), d.cnt < n → d.small → B4 n d = some d.depth := by
 induction n with
 | zero => intro d h; omega
 | succ n ih =>
  intro d h hd
  show eE (B4 n) d = _
  unfold eE
  have hs := cK hd
  have hc := hd.2
  have hdc := qS.1 d
  have hmax : ∀ x ∈ d.items, 0 ≤ x.depth ∧ x.depth ≤ 1048577 := fun x hx => by
   have h1 := qS.1 x
   have h2 := ae6 hx
   omega
  rw [ag2 (L := mJ (B4 n) d) d.items.length (fun i a => 0 ≤ a ∧ a ≤ 1048577) (fun i a => some (max a (depths (d.items.drop i)) + 1)) (by omega) (fun go i a hi ha hgo => ?_) (fun go a ha => ?_) (by omega)]
  ·rw [qT, List.drop_zero]
   have := D1 d.items
   rw [Int.max_eq_right this]
  ·show P8 (B4 n) d go a i = _
   unfold P8
   have hx := hmax _ (List.getElem_mem hi)
   rw [if_pos (by omega), t9 hi]
   rw [g9]
   rw [ih _ (by have := (G1 hd hi).2; omega) (G1 hd hi).1]
   rw [g9]
   rw [List.drop_eq_getElem_cons hi, depths]
   generalize depth d.items[i] = z at hx ⊢
   rw [m8 (by omega), hgo _ (by omega), Int.max_assoc]
  ·show P8 (B4 n) d go a _ = _
   unfold P8
   rw [if_neg (by omega), List.drop_length, m8 (by omega)]
   simp only [depths]
   rw [Int.max_eq_left ha.1]
theorem uT : ∀ (n : Nat) (d : PD), d.cnt < n → d.small → B5 n d = some d.okAll
 | 0, d, h, _ => by omega
 | n + 1, d, h, hd => by
  show eG (B5 n) d = _
  unfold eG
  have hs := cK hd
  rw [okAll_eq, dW (L := mN (B5 n) d) d.items.length (fun i => some (okAlls (d.items.drop i) && nodeOK d.kind d.number d.text d.items.length)) (by omega) (fun go i hi hgo => ?_) (fun go => ?_)]
  ·rw [List.drop_zero, Bool.and_comm]
  ·show P9 (B5 n) d go i = _
   unfold P9
   rw [if_pos (by omega), t9 hi]
   simp only [g9]
   rw [uT n _ (by have := (G1 hd hi).2; omega) (G1 hd hi).1]
   simp only [g9]
   rw [m8 (by omega), hgo, List.drop_eq_getElem_cons hi, okAlls]
   cases okAll d.items[i] <;> simp
  ·show P9 (B5 n) d go _ = _
   unfold P9
   rw [if_neg (by omega), List.drop_length, s_l1Node_eq _ _ _ _ (small_SM hd)]
   simp [okAlls]
theorem s_IsDatum_eq (d : PD) (h : d.small) : mL d = some d.valid := by
 unfold mL
 rw [s_l1Few_eq RF d 600 (RF_cnt h) h (by omega) (by omega), s_DepthOf_eq RF d (RF_cnt h) h, uT RF d (RF_cnt h) h]
 simp only [g9]
 rw [← few_valid]
 by_cases h1 : 0 ≤ few d 600 <;> by_cases h2 : d.depth ≤ 20 <;> simp [h1, h2]
end Go.Abs

namespace Go.Abs
open PD
mutual
def wD : PD → Nat
 | .mk _ _ t is => t.length + wDs is
def wDs : List PD → Nat
 | [] => 0
 | d :: r => 1 + wD d + wDs r
end
theorem uC (d : PD) : wD d = d.text.length + wDs d.items := by cases d; rfl
theorem wDs_eq : ∀ ds : List PD, wDs ds = wts wD ds
 | [] => rfl
 | d :: r => by have := wDs_eq r; unfold wts at *; simp [wDs]; omega
theorem wDs_mem : ∀ {ds : List PD} {x : PD}, x ∈ ds → wD x < wDs ds
 | d :: r, x, h => by
  unfold wDs
  rcases List.mem_cons.1 h with rfl | h
  ·omega
  ·have := wDs_mem h; omega
theorem wT : (∀ d : PD, d.cnt ≤ wD d) ∧ ∀ ds : List PD, cnts ds ≤ wDs ds := by
 refine ind (fun ds h => ?_) (fun d h => ?_)
 ·induction ds with
  | nil => simp [cnts]
  | cons x r ih => have := h x (by simp); have := ih (fun y hy => h y (by simp [hy])); unfold cnts wDs; omega
 ·rw [cnt_eq, uC]; omega
theorem short_wD : (∀ d : PD, wD d ≤ 1048576 → d.short) ∧ ∀ ds : List PD, wDs ds ≤ 1048576 → shorts ds := by
 refine ind (fun ds h => ?_) (fun d h => ?_)
 ·induction ds with
  | nil => intro _; trivial
  | cons x r ih => intro hw; unfold wDs at hw; exact ⟨h x (by simp) (by omega), ih (fun y hy => h y (by simp [hy])) (by omega)⟩
 ·intro hw; rw [uC] at hw; exact (aj4 d).2 ⟨by omega, h (by omega)⟩
theorem small_wD {d : PD} (h : wD d ≤ 1048576) : d.small := ⟨short_wD.1 d h, by have := wT.1 d; omega⟩
def fit (d : PD) : Prop := d.wf
theorem wf_len {d : PD} (h : d.wf) : d.text.length ≤ 9223372036854775807 ∧ d.items.length ≤ 9223372036854775807 ∧ ∀ x ∈ d.items, x.wf := by
 have := (wf_eq d).1 h
 exact ⟨this.2.2.1, this.2.2.2.1, fun x hx => wfs_mem this.2.2.2.2 hx⟩
theorem w_sz_eq : ∀ n : Nat, (∀ d : PD, d.wf → ∀ left : Int, 0 ≤ left → left ≤ 1048576 → 2 * left + 2 ≤ n → w7 n d left = some (szw (wD d) left)) ∧ (∀ ds : List PD, ds.length ≤ 9223372036854775807 → (∀ x ∈ ds, x.wf) → ∀ left : Int, 0 ≤ left → left ≤ 1048576 → 2 * left + 1 ≤ n → B0 n ds left = some (szw (wDs ds) left))
 | 0 => ⟨fun d _ left h1 _ h2 => by omega, fun ds _ _ left h1 _ h2 => by omega⟩
 | n + 1 => by
  have ih := w_sz_eq n
  refine ⟨fun d hw left h0 h1 h => ?_, fun ds hl hw left h0 h1 h => ?_⟩
  ·show fC (w7 n) (B0 n) d left = _
   unfold fC
   have hw' := wf_len hw
   rw [m8 (by omega), uC, ← zL]
   by_cases hx : left - (d.text.length : Int) < 0
   ·have e : szw d.text.length left = -1 := by unfold szw; rw [if_pos hx]
    rw [if_pos hx, e]; unfold szw; rw [if_pos (by omega)]
   ·have e : szw d.text.length left = left - d.text.length := by unfold szw; rw [if_neg hx]
    rw [if_neg hx, e, ih.2 d.items hw'.2.1 hw'.2.2 _ (by omega) (by omega) (by omega), g9, szw_if]
  ·show cN (w7 n) (B0 n) ds left = _
   unfold cN
   rw [wDs_eq]
   refine szS_eq (L := kY (w7 n) ds) (E := w7 n) wD ds left (fun x hx m hm hm2 => ih.1 x (hw x hx) m hm (by omega) ?_) (fun go left i => rfl) ⟨h0, h1⟩ hl
   have : 0 < ds.length := List.length_pos_of_mem hx
   omega
def rfOK (d : PD) : Prop := 2 * d.cnt + 1 < RF
theorem tO {d : PD} (h : d.small) : rfOK d := by unfold rfOK; rw [RF_eq]; have := h.2; omega
theorem w_to_eq : ∀ n : Nat, (∀ d : PD, 2 * d.cnt + 1 < n → d.small → v4 n d = some d) ∧ (∀ ds : List PD, 2 * cnts ds < n → cnts ds ≤ 1048576 → (∀ x ∈ ds, x.small) → B1 n ds = some ds)
 | 0 => ⟨fun d h => by omega, fun ds h => by omega⟩
 | n + 1 => by
  have ih := w_to_eq n
  refine ⟨fun d h hs => ?_, fun ds h hl hw => ?_⟩
  ·show fE (v4 n) (B1 n) d = _
   unfold fE
   have hc := cnt_eq d
   rw [ih.2 d.items (by omega) (by have := hs.2; omega) (fun x hx => small_item hs hx), g9]
   cases d; rfl
  ·show cO (v4 n) (B1 n) ds = _
   unfold cO
   exact toS_eq (L := lA (v4 n) ds) (T := v4 n) _ ds 56 (by omega) (by have := cnts_len ds; omega) (fun x hx => ih.1 x (by have := cnts_mem hx; omega) (hw x hx)) (fun go i out => rfl)
theorem w_eq_eq : ∀ n : Nat, (∀ d : PD, 2 * d.cnt + 1 < n → d.small → u9 n d d = some true) ∧ (∀ ds : List PD, 2 * cnts ds < n → cnts ds ≤ 1048576 → (∀ x ∈ ds, x.small) → A9 n ds ds = some true)
 | 0 => ⟨fun d h => by omega, fun ds h => by omega⟩
 | n + 1 => by
  have ih := w_eq_eq n
  refine ⟨fun d h hs => ?_, fun ds h hl hw => ?_⟩
  ·show eV (u9 n) (A9 n) d d = _
   unfold eV
   have hc := cnt_eq d
   rw [if_pos rfl, if_pos rfl, if_pos rfl, ih.2 d.items (by omega) (by have := hs.2; omega) (fun x hx => small_item hs hx), g9, if_pos rfl]
  ·show cM (u9 n) (A9 n) ds ds = _
   unfold cM
   exact eqS_refl (L := kQ (u9 n) ds ds) (E := u9 n) ds (by have := cnts_len ds; omega) (fun x hx => ih.1 x (by have := cnts_mem hx; omega) (hw x hx)) (fun go i => rfl)
theorem toDatum_eq {d : PD} (h : d.small) : v4 RF d = some d := (w_to_eq RF).1 d (tO h) h
theorem eqDatum_eq {d : PD} (h : d.small) : u9 RF d d = some true := (w_eq_eq RF).1 d (tO h) h
theorem PD.wf_of {x : Int × Int × LB × List PD} (h : (IntKind.i64.min ≤ x.1 ∧ x.1 ≤ IntKind.i64.max) ∧ (IntKind.i64.min ≤ x.2.1 ∧ x.2.1 ≤ IntKind.i64.max) ∧ x.2.2.1.length ≤ 9223372036854775807 ∧ x.2.2.2.length ≤ 9223372036854775807 ∧ ∀ y ∈ x.2.2.2, y.wf) : (PD.mk x.1 x.2.1 x.2.2.1 x.2.2.2).wf :=
 ⟨h.1, h.2.1, h.2.2.1, h.2.2.2.1, wfs_of h.2.2.2.2⟩
end Go.Abs

namespace Go.Abs
open PD
theorem itr_ex {σ R : Type} {L : (σ → Option R) → σ → Option R} (Q : R → Prop) (P : σ → Prop) (μ : σ → Nat)
 (step : ∀ go v, P v → (∀ v', P v' → μ v' < μ v → ∃ r, go v' = some r ∧ Q r) → ∃ r, L go v = some r ∧ Q r) : ∀ n v, P v → μ v < n → ∃ r, itr L n v = some r ∧ Q r
 | 0, v, _, h => by omega
 | n + 1, v, hp, h => step (itr L n) v hp fun v' hp' hm => itr_ex Q P μ step n v' hp' (by omega)
theorem itr_exLF {σ R : Type} {L : (σ → Option R) → σ → Option R} (Q : R → Prop) (P : σ → Prop) (μ : σ → Nat)
 (step : ∀ go v, P v → (∀ v', P v' → μ v' < μ v → ∃ r, go v' = some r ∧ Q r) → ∃ r, L go v = some r ∧ Q r) (v : σ) (hp : P v) (h : μ v < 18446744073709551616) : ∃ r, itr L LF v = some r ∧ Q r := by
 rw [LF_eq]; exact itr_ex Q P μ step _ v hp h
theorem ag5 (k : Int) (h : k ≤ 4611686018427387904) : ∃ t, R7 k = some t := by
 unfold R7
 by_cases h0 : k ≤ 0
 ·rw [if_pos h0]; exact ⟨_, rfl⟩
 ·rw [if_neg h0]
  have := itr_exLF (L := kV) (fun _ => True) (fun v => 0 ≤ v.1 ∧ v.1 + v.2.length ≤ 4611686018427387904) (fun v => v.1.toNat) (fun go v hv hgo => ?_) (k, []) ⟨by omega, by simpa using h⟩ (by omega)
  ·obtain ⟨t, h1, _⟩ := this; exact ⟨t, h1⟩
  ·obtain ⟨k, out⟩ := v
   show ∃ r, X9 go k out = some r ∧ True
   unfold X9
   have h1 : 0 ≤ k := hv.1
   have h2 : k + (out.length : Int) ≤ 4611686018427387904 := hv.2
   by_cases hk : k > 0
   ·rw [if_pos hk, m8 (by omega), m8 (by omega), m8 (by omega), m8 (by simp; omega), m8 (by omega)]
    exact hgo _ ⟨by show 0 ≤ k / 10; omega, by simp; omega⟩ (by show (k / 10).toNat < k.toNat; omega)
   ·rw [if_neg hk, m8 (by simp; omega)]
    exact ⟨_, rfl, trivial⟩
theorem eA {α : Type} {l : List α} {i : Nat} {v : α} (h : i < l.length) : nth (l.set i v) (i : Int) = some v := by
 rw [t9 (by simpa using h)]; simp
theorem wF {α : Type} (wt : α → Nat) (x : α) (r : List α) : wts wt (x :: r) = 1 + wt x + wts wt r := by
 unfold wts; simp only [List.length_cons, List.map_cons, List.sum_cons]; omega
theorem vX (k n : Int) (t : LB) (is : List PD) : (PD.mk k n t is).items = is := rfl
theorem mk_kind (k n : Int) (t : LB) (is : List PD) : (PD.mk k n t is).kind = k := rfl
theorem yK (k n : Int) (t : LB) (is : List PD) : (PD.mk k n t is).number = n := rfl
theorem mk_text (k n : Int) (t : LB) (is : List PD) : (PD.mk k n t is).text = t := rfl
end Go.Abs
