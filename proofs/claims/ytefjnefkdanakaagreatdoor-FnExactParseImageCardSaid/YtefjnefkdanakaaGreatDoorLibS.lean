
import Derived.Test.YtefjnefkdanakaaGreatDoorLibP
import Derived.Test.YtefjnefkdanakaaGreatDoorLibF
set_option linter.unusedVariables false
set_option linter.unusedSimpArgs false
namespace Go.Abs
def symI (b : Int) : Bool := (decide (97 ≤ b) && decide (b ≤ 122)) || (decide (48 ≤ b) && decide (b ≤ 57)) || markOdd.contains b
theorem symI_b (b : UInt8) : symI b.toNat = markB b := rfl
theorem zU (b : Int) : eS b = some (decide (48 ≤ b) && decide (b ≤ 57)) := by
 unfold eS
 by_cases h : 48 ≤ b <;> simp [h]
theorem jM (b : Int) : W9 b = some (decide (48 ≤ b) && decide (b ≤ 57)) := by
 unfold W9
 by_cases h : 48 ≤ b <;> simp [h]
theorem nC (b : Int) (x : Bool) : z8 b x = some (x || markOdd.contains b) := by
 unfold z8
 cases x
 ·by_cases h : markOdd.contains b = true
  ·simp only [markOdd, List.contains_cons, Bool.or_eq_true, beq_iff_eq, List.contains_nil] at h
   rcases h with h | h | h | h | h | h | h | h | h | h | h | h
   all_goals first | (subst h; rfl) | cases h
  ·have h' : markOdd.contains b = false := by simpa using h
   simp only [markOdd, List.contains_cons, Bool.or_eq_true, beq_iff_eq, List.contains_nil, not_or] at h
   rw [h']
   simp [h]
 ·rfl
theorem sD (b : Int) : Z9 b = some (symI b) := by
 unfold Z9 symI
 simp only [nC]
 by_cases h1 : 97 ≤ b <;> by_cases h2 : b ≤ 122 <;> by_cases h3 : 48 ≤ b <;> simp [h1, h2, h3]
theorem uX (b : Int) (x : Bool) : Q1 b x = some (x || markOdd.contains b) := by
 unfold Q1
 cases x
 ·simp only [Bool.false_eq_true, if_false, Bool.false_or]
  have := iS (L := lY b) 11 (fun i => some ((markTab.drop i).any fun c => decide (((c.toNat : Nat) : Int) = b))) (by omega) (fun go i hi hgo => ?_) (fun go => ?_)
  ·rw [this, List.drop_zero, markTab_any]
  ·show V5 b go i = _
   unfold V5
   have hl : i < markTab.length := hi
   have hl' : (i : Int) < 11 := by omega
   simp only [show ([33, 63, 42, 60, 62, 61, 47, 43, 45, 46, 95] : LB) = markTab from rfl, show (markTab.length : Int) = 11 from rfl, hl', if_true, m7 hl, f6]
   rw [i6 (by omega), hgo, List.drop_eq_getElem_cons hl, List.any_cons]
   by_cases h : (markTab[i].toNat : Int) = b <;> simp [h]
  ·show V5 b go ((11 : Nat) : Int) = _
   rfl
 ·rfl
theorem s_l1Mark_eq (b : Int) : nW b = some (symI b) := by
 unfold nW symI
 simp only [uX, jM, f6]
 by_cases h1 : 97 ≤ b <;> by_cases h2 : b ≤ 122 <;> simp [h1, h2]
def SM (l : LB) : Prop := l.length ≤ 9223372036854775806
theorem rZ (s : LB) (h : SM s) : itr (fR s) LF 0 = some (s.all markB) := by
 rw [lN s markB (some true) (some false) (by unfold SM at h; omega) (fun go i hi => ?_) (fun go => ?_)]
 ·cases s.all markB <;> rfl
 ·show I6 s go i = _
  unfold I6 SM at *
  simp only [show ((i : Int) < (s.length : Int)) from by omega, if_true, m7 hi, f6, sD, symI_b]
  rw [i6 (by omega)]
 ·show I6 s go _ = _
  unfold I6
  simp
theorem tI (s : LB) (h : SM s) : itr (gC s) LF 0 = some (s.all markB) := by
 rw [lN s markB (some true) (some false) (by unfold SM at h; omega) (fun go i hi => ?_) (fun go => ?_)]
 ·cases s.all markB <;> rfl
 ·show J0 s go i = _
  unfold J0 SM at *
  simp only [show ((i : Int) < (s.length : Int)) from by omega, if_true, m7 hi, f6, s_l1Mark_eq, symI_b]
  rw [i6 (by omega)]
 ·show J0 s go _ = _
  unfold J0
  simp
theorem mX (s : LB) (h : SM s) : bO s = some (isSymbol s) := by
 unfold bO
 have hJ : ∀ b, A9 s b = some (!b && s.all markB) := fun b => by
  unfold A9
  cases b
  ·simp [rZ s h]
  ·rfl
 simp only [hJ, zU, f6]
 unfold isSymbol headBad isDigit
 by_cases h1 : (s.length : Int) < 1
 ·simp [h1]
 ·by_cases h2 : (s.length : Int) > 16
  ·simp [h1, h2]
  ·have hl : 0 < s.length := by omega
   have e0 : nth s 0 = some (s.getD 0 0) := by rw [show (0 : Int) = ((0 : Nat) : Int) from rfl, m7 hl]; simp [List.getD, List.getElem?_eq_getElem hl]
   simp only [h1, h2, if_false, e0, f6]
   generalize s.getD 0 0 = b0
   by_cases h3 : (decide (48 ≤ (b0.toNat : Int)) && decide ((b0.toNat : Int) ≤ 57)) = true
   ·simp [h3]
   ·simp only [h3, if_false]
    by_cases h4 : (b0.toNat : Int) = 45
    ·by_cases h5 : (s.length : Int) > 1
     ·have hl1 : 1 < s.length := by omega
      have e1 : nth s 1 = some (s.getD 1 0) := by rw [show (1 : Int) = ((1 : Nat) : Int) from rfl, m7 hl1]; simp [List.getD, List.getElem?_eq_getElem hl1]
      simp [h4, h5, e1]
     ·simp [h4, h5]
    ·simp [h4]
theorem cT (x a b : Int) : X0 x a b = some (inside x a b) := by
 unfold X0 inside
 by_cases h : a ≤ x <;> simp [h]
theorem bK (s : LB) (h : SM s) : R5 s = some (isSymbol s) := by
 unfold R5
 have hJ : ∀ b, C7 s b = some (!b && s.all markB) := fun b => by
  unfold C7
  cases b
  ·simp [tI s h]
  ·rfl
 simp only [hJ, jM, f6, cT]
 unfold isSymbol headBad isDigit inside
 by_cases h1 : (s.length : Int) < 1
 ·have h1' : (decide (1 ≤ (s.length : Int))) = false := by simp; omega
  simp [h1, h1']
 ·by_cases h2 : (s.length : Int) > 16
  ·simp [h1, h2]; omega
  ·have hl : 0 < s.length := by omega
   have e0 : nth s 0 = some (s.getD 0 0) := by rw [show (0 : Int) = ((0 : Nat) : Int) from rfl, m7 hl]; simp [List.getD, List.getElem?_eq_getElem hl]
   have h1' : 1 ≤ (s.length : Int) := by omega
   have h2' : (s.length : Int) ≤ 16 := by omega
   simp only [h1', h2', h1, h2, decide_true, Bool.and_self, if_true, e0, f6]
   generalize s.getD 0 0 = b0
   by_cases h3 : (decide (48 ≤ (b0.toNat : Int)) && decide ((b0.toNat : Int) ≤ 57)) = true
   ·simp [h3]
   ·simp only [h3, if_false]
    by_cases h4 : (b0.toNat : Int) = 45
    ·by_cases h5 : (s.length : Int) > 1
     ·have hl1 : 1 < s.length := by omega
      have e1 : nth s 1 = some (s.getD 1 0) := by rw [show (1 : Int) = ((1 : Nat) : Int) from rfl, m7 hl1]; simp [List.getD, List.getElem?_eq_getElem hl1]
      simp [h4, h5, e1]
     ·simp [h4, h5]
    ·simp [h4]
theorem iP (s : LB) (h : SM s) : Q0 s = some (isText s) := by
 unfold Q0 isText
 have hL : itr (cG s) LF 0 = some (s.all fun b => !badChar b) := by
  rw [lN s (fun b => !badChar b) (some true) (some false) (by unfold SM at h; omega) (fun go i hi => ?_) (fun go => ?_)]
  ·cases (s.all fun b => !badChar b) <;> rfl
  ·show D4 s go i = _
   unfold D4 SM at *
   simp only [show ((i : Int) < (s.length : Int)) from by omega, if_true, m7 hi, f6]
   rw [i6 (by omega)]
   unfold badChar
   by_cases h1 : (s[i].toNat : Int) < 32 <;> by_cases h2 : (s[i].toNat : Int) > 126 <;> by_cases h3 : (s[i].toNat : Int) = 34 <;> simp [h1, h2, h3]
  ·show D4 s go _ = _
   unfold D4
   simp
 rw [hL]
 by_cases h1 : (s.length : Int) > 20
 ·have : (decide ((s.length : Int) ≤ 20)) = false := by simp; omega
  simp [h1, this]
 ·have : (s.length : Int) ≤ 20 := by omega
  simp [h1]; omega
theorem gO (s : LB) (h : SM s) : R7 s = some (isText s) := by
 unfold R7 isText
 rw [lN s (fun b => !badChar b) (some (decide ((s.length : Int) ≤ 20))) (some false) (by unfold SM at h; omega) (fun go i hi => ?_) (fun go => ?_)]
 ·cases (s.all fun b => !badChar b) <;> simp
 ·show J3 s go i = _
  unfold J3 SM at *
  simp only [show ((i : Int) < (s.length : Int)) from by omega, if_true, m7 hi, f6]
  rw [i6 (by omega)]
  unfold badChar
  by_cases h1 : (s[i].toNat : Int) < 32 <;> by_cases h2 : (s[i].toNat : Int) > 126 <;> by_cases h3 : (s[i].toNat : Int) = 34 <;> simp [h1, h2, h3]
 ·show J3 s go _ = _
  unfold J3
  simp
theorem uL (k n : Int) (t : LB) (m : Int) (h : SM t) : cE k n t m = some (PD.nodeOK k n t m) := by
 unfold cE PD.nodeOK inside
 simp only [mX t h, iP t h, f6]
 repeat' split
 all_goals simp_all <;> omega
theorem s_l1Node_eq (k n : Int) (t : LB) (m : Int) (h : SM t) : nX k n t m = some (PD.nodeOK k n t m) := by
 unfold nX PD.nodeOK
 simp only [bK t h, gO t h, cT, f6]
 repeat' split
 all_goals simp_all <;> omega
end Go.Abs

namespace Go.Abs
open PD
theorem small_SM {d : PD} (h : d.small) : SM d.text := by
 have := ((qZ d).1 h.1).1
 unfold SM; omega
theorem X1 {d : PD} (h : d.small) : d.items.length ≤ 1048576 := by
 have h1 := cnts_len d.items
 have h2 := h.2
 rw [cnt_eq] at h2
 omega
theorem A6 {d : PD} (h : d.small) {i : Nat} (hi : i < d.items.length) : (d.items[i]).small ∧ (d.items[i]).cnt < d.cnt :=
 ⟨vZ h (List.getElem_mem hi), wO (List.getElem_mem hi)⟩
theorem eq_loop {E : PD → PD → Option Bool} {L : (Int → Option Bool) → Int → Option Bool} (a b : PD) (hl : a.items.length = b.items.length) (hn : a.items.length ≤ 1048576)
 (hE : ∀ i (h : i < a.items.length) (h2 : i < b.items.length), E a.items[i] b.items[i] = some (eqb a.items[i] b.items[i]))
 (hL : ∀ go (i : Int), L go i = if i < (a.items.length : Int) then bnd (nth a.items i) fun x => bnd (nth b.items i) fun y => bnd (E x y) fun e => if e = true then chk (I64 (i + 1)) (go (i + 1)) else some false else some true) :
 itr L LF 0 = some (eqbs a.items b.items) := by
 rw [iS (L := L) a.items.length (fun i => some (eqbs (a.items.drop i) (b.items.drop i))) (by omega) (fun go i hi hgo => ?_) (fun go => ?_)]
 ·rfl
 ·have hi2 : i < b.items.length := by omega
  rw [hL, if_pos (by omega), m7 hi, m7 hi2]
  simp only [f6, hE i hi hi2]
  rw [i6 (by omega), hgo, List.drop_eq_getElem_cons hi, List.drop_eq_getElem_cons hi2, eqbs]
  cases eqb a.items[i] b.items[i] <;> simp
 ·rw [hL, if_neg (by omega), List.drop_length, hl, List.drop_length]; rfl
theorem kY : ∀ (n : Nat) (a b : PD), a.cnt < n → a.small → s4 n a b = some (eqb a b)
 | 0, a, b, h, _ => by omega
 | n + 1, a, b, h, ha => by
  show V9 (s4 n) a b = _
  unfold V9
  rw [eqb_eq]
  by_cases h1 : a.kind = b.kind <;> by_cases h2 : a.number = b.number <;> by_cases h3 : a.text = b.text <;> simp only [h1, h2, h3, if_true, if_false, decide_true, decide_false, Bool.true_and, Bool.false_and]
  by_cases h4 : a.items.length = b.items.length
  ·rw [if_pos (by omega), eq_loop (L := dV (s4 n) a b) a b h4 (X1 ha) (E := s4 n) (fun i hi hi2 => kY n _ _ (by have := (A6 ha hi).2; omega) (A6 ha hi).1) (fun go i => rfl)]
  ·rw [if_neg (by omega)]
   cases he : eqbs a.items b.items
   ·rfl
   ·exact absurd (wV he) h4
theorem lD : ∀ (n : Nat) (a b : PD), a.cnt < n → a.small → s5 n a b = some (eqb a b)
 | 0, a, b, h, _ => by omega
 | n + 1, a, b, h, ha => by
  show W6 (s5 n) a b = _
  unfold W6
  rw [eqb_eq]
  by_cases h1 : a.kind = b.kind <;> by_cases h2 : a.number = b.number <;> by_cases h3 : a.text = b.text <;> simp only [h1, h2, h3, if_true, if_false, decide_true, decide_false, Bool.true_and, Bool.false_and]
  by_cases h4 : a.items.length = b.items.length
  ·rw [if_pos (by omega), eq_loop (L := eB (s5 n) a b) a b h4 (X1 ha) (E := s5 n) (fun i hi hi2 => lD n _ _ (by have := (A6 ha hi).2; omega) (A6 ha hi).1) (fun go i => rfl)]
  ·rw [if_neg (by omega)]
   cases he : eqbs a.items b.items
   ·rfl
   ·exact absurd (wV he) h4
mutual
theorem eqb_true : ∀ {a b : PD}, eqb a b = true → a = b
 | .mk k n t is, .mk k' n' t' is', h => by
  simp only [eqb, Bool.and_eq_true, decide_eq_true_eq] at h
  obtain ⟨rfl, rfl, rfl, h⟩ := h
  rw [zE h]
theorem zE : ∀ {a b : List PD}, eqbs a b = true → a = b
 | [], [], _ => rfl
 | x :: r, y :: s, h => by
  simp only [eqbs, Bool.and_eq_true] at h
  rw [eqb_true h.1, zE h.2]
 | [], _ :: _, h => by simp [eqbs] at h
 | _ :: _, [], h => by simp [eqbs] at h
end
theorem RF_cnt {d : PD} (h : d.small) : d.cnt < RF := by rw [RF_eq]; have := h.2; omega
theorem iN : ∀ (n : Nat) (d : PD) (deep nodes : Int), d.cnt < n → d.small → 0 ≤ deep → deep ≤ 21 → 0 ≤ nodes → nodes ≤ 600 → v8 n d deep nodes = some (meas d deep nodes)
 | 0, d, _, _, h, _, _, _, _, _ => by omega
 | n + 1, d, deep, nodes, h, hd, h1, h2, h3, h4 => by
  show cB (v8 n) d deep nodes = _
  unfold cB
  rw [meas_eq, i6 (by omega)]
  by_cases h5 : deep > 20
  ·rw [if_pos h5, if_pos (.inl h5)]
  ·rw [if_neg h5]
   by_cases h6 : nodes + 1 > 600
   ·rw [if_pos h6, if_pos (.inr (.inl h6))]
   ·rw [if_neg h6, uL _ _ _ _ (small_SM hd)]
    simp only [f6]
    cases h7 : nodeOK d.kind d.number d.text d.items.length
    ·simp
    ·rw [if_pos rfl, if_neg (by simp; omega)]
     have hs := X1 hd
     rw [J7 (L := iM (v8 n) d deep) d.items.length (fun i a => 0 ≤ a ∧ a ≤ 600) (fun i a => some (measL (d.items.drop i) (deep + 1) a)) (by omega) (fun go i a hi ha hgo => ?_) (fun go a ha => ?_) (by omega)]
     ·rfl
     ·show L9 (v8 n) d deep go i a = _
      unfold L9
      rw [if_pos (by omega), m7 hi]
      simp only [f6]
      rw [i6 (by omega), iN n _ _ _ (by have := (A6 hd hi).2; omega) (A6 hd hi).1 (by omega) (by omega) ha.1 ha.2]
      simp only [f6]
      rw [List.drop_eq_getElem_cons hi, measL]
      by_cases h8 : (meas d.items[i] (deep + 1) a).1 = true
      ·rw [if_pos h8, if_pos h8, i6 (by omega), hgo]
       have := (iU.1 d.items[i] (deep + 1) a)
       have h9 := this.1.1 h8
       have h10 := this.2 h8
       omega
      ·rw [if_neg h8, if_neg h8]
     ·show L9 (v8 n) d deep go _ a = _
      unfold L9
      rw [if_neg (by omega), List.drop_length]; rfl
theorem pM (d : PD) (h : d.small) : eP d = some d.valid := by
 unfold eP
 rw [iN RF d 1 0 (RF_cnt h) h (by omega) (by omega) (by omega) (by omega)]
 simp only [f6, meas_valid]
theorem s_l1Few_eq (n : Nat) : ∀ (d : PD) (left : Int), d.cnt < n → d.small → 0 ≤ left → left ≤ 600 → B9 n d left = some (decide (0 ≤ few d left), few d left) := by
 induction n with
 | zero => intro d _ h; omega
 | succ n ih =>
  intro d left h hd h1 h2
  show jN (B9 n) d left = _
  unfold jN
  rw [few_eq, i6 (by omega)]
  have hs := X1 hd
  rw [J7 (L := pE (B9 n) d) d.items.length (fun i a => -1 ≤ a ∧ a ≤ 600) (fun i a => some (decide (0 ≤ fews (d.items.drop i) a), fews (d.items.drop i) a)) (by omega) (fun go i a hi ha hgo => ?_) (fun go a ha => ?_) (by omega)]
  ·rw [List.drop_zero]
  ·show U2 (B9 n) d go i a = _
   unfold U2 Y6
   rw [if_pos (by omega), List.drop_eq_getElem_cons hi, fews]
   by_cases h0 : 0 ≤ a
   ·rw [if_pos (by simpa using h0), if_pos h0, m7 hi]
    rw [f6]
    rw [ih _ _ (by have := (A6 hd hi).2; omega) (A6 hd hi).1 h0 ha.2]
    rw [f6]
    have := (few_spec.1 d.items[i] a h0).1
    generalize few d.items[i] a = z at this ⊢
    rw [i6 (by omega), hgo _ (by omega)]
   ·rw [if_neg (by simpa using h0), if_neg h0]
  ·show U2 (B9 n) d go _ a = _
   unfold U2 Y6
   rw [if_neg (by omega), List.drop_length]
   simp only [fews, Bool.false_eq_true, if_false]
   rfl
theorem s_DepthOf_eq (n : Nat) : ∀ (d : PD), d.cnt < n → d.small → y9 n d = some d.depth := by
 induction n with
 | zero => intro d h; omega
 | succ n ih =>
  intro d h hd
  show cN (y9 n) d = _
  unfold cN
  have hs := X1 hd
  have hc := hd.2
  have hdc := yV.1 d
  have hmax : ∀ x ∈ d.items, 0 ≤ x.depth ∧ x.depth ≤ 1048577 := fun x hx => by
   have h1 := yV.1 x
   have h2 := wO hx
   omega
  rw [itr_Aidx (L := jD (y9 n) d) d.items.length (fun i a => 0 ≤ a ∧ a ≤ 1048577) (fun i a => some (max a (depths (d.items.drop i)) + 1)) (by omega) (fun go i a hi ha hgo => ?_) (fun go a ha => ?_) (by omega)]
  ·rw [depth_eq, List.drop_zero]
   have := V7 d.items
   rw [Int.max_eq_right this]
  ·show M7 (y9 n) d go a i = _
   unfold M7
   have hx := hmax _ (List.getElem_mem hi)
   rw [if_pos (by omega), m7 hi]
   rw [f6]
   rw [ih _ (by have := (A6 hd hi).2; omega) (A6 hd hi).1]
   rw [f6]
   rw [List.drop_eq_getElem_cons hi, depths]
   generalize depth d.items[i] = z at hx ⊢
   rw [i6 (by omega), hgo _ (by omega), Int.max_assoc]
  ·show M7 (y9 n) d go a _ = _
   unfold M7
   rw [if_neg (by omega), List.drop_length, i6 (by omega)]
   simp only [depths]
   rw [Int.max_eq_left ha.1]
theorem pY : ∀ (n : Nat) (d : PD), d.cnt < n → d.small → z6 n d = some d.okAll
 | 0, d, h, _ => by omega
 | n + 1, d, h, hd => by
  show cU (z6 n) d = _
  unfold cU
  have hs := X1 hd
  rw [nJ, iS (L := jP (z6 n) d) d.items.length (fun i => some (okAlls (d.items.drop i) && nodeOK d.kind d.number d.text d.items.length)) (by omega) (fun go i hi hgo => ?_) (fun go => ?_)]
  ·rw [List.drop_zero, Bool.and_comm]
  ·show N5 (z6 n) d go i = _
   unfold N5
   rw [if_pos (by omega), m7 hi]
   simp only [f6]
   rw [pY n _ (by have := (A6 hd hi).2; omega) (A6 hd hi).1]
   simp only [f6]
   rw [i6 (by omega), hgo, List.drop_eq_getElem_cons hi, okAlls]
   cases okAll d.items[i] <;> simp
  ·show N5 (z6 n) d go _ = _
   unfold N5
   rw [if_neg (by omega), List.drop_length, s_l1Node_eq _ _ _ _ (small_SM hd)]
   simp [okAlls]
theorem pU (d : PD) (h : d.small) : eZ d = some d.valid := by
 unfold eZ
 rw [s_l1Few_eq RF d 600 (RF_cnt h) h (by omega) (by omega), s_DepthOf_eq RF d (RF_cnt h) h, pY RF d (RF_cnt h) h]
 simp only [f6]
 rw [← few_valid]
 by_cases h1 : 0 ≤ few d 600 <;> by_cases h2 : d.depth ≤ 20 <;> simp [h1, h2]
def PInstr.small (x : PInstr) : Prop := x.d.small
theorem zeroDat_small : zeroDat.small := ⟨⟨by simp, trivial⟩, by simp [zeroDat, cnt, cnts]⟩
theorem pP (x : PInstr) (h : x.d.small) : eR x = some (instrOK x) := by
 unfold eR instrOK inside
 rw [pM _ h, kY RF _ _ (RF_cnt h) h]
 simp only [f6, show PD.mk 0 0 ([] : LB) [] = zeroDat from rfl]
 by_cases h1 : x.op < 1
 ·have : ¬ 1 ≤ x.op := by omega
  simp [h1, this]
 ·have h1' : 1 ≤ x.op := by omega
  by_cases h2 : x.op > 20
  ·have : ¬ x.op ≤ 20 := by omega
   simp [h1, h2, this]
  ·have h2' : x.op ≤ 20 := by omega
   by_cases h3 : x.op = 1
   ·by_cases h4 : x.a = 0 <;> simp [h3, h4]
   ·simp only [h1, h2, h3, h1', h2', if_false, decide_true, Bool.true_and, Bool.and_self]
    cases eqb x.d zeroDat
    ·simp
    ·by_cases h5 : x.a < 0
     ·have : ¬ 0 ≤ x.a := by omega
      simp [h5, this]
     ·have h5' : 0 ≤ x.a := by omega
      by_cases h6 : x.a > 4000
      ·have : ¬ x.a ≤ 4000 := by omega
       simp [h5, h6, this]
      ·have h6' : x.a ≤ 4000 := by omega
       by_cases h7 : x.a = 0 <;> by_cases h8 : x.op = 14 <;> simp [h5, h6, h5', h6', h7, h8]
theorem nP (x : PInstr) (h : x.d.small) : bQ x = some (instrOK x) := by
 unfold bQ instrOK bR
 rw [pU _ h, lD RF _ _ (RF_cnt h) h]
 simp only [f6, show PD.mk 0 0 ([] : LB) [] = zeroDat from rfl, cT]
 cases inside x.op 1 20
 ·simp
 ·by_cases h3 : x.op = 1
  ·by_cases h4 : x.a = 0 <;> simp [h3, h4]
  ·cases eqb x.d zeroDat
   ·simp [h3]
   ·cases inside x.a 0 4000
    ·simp [h3]
    ·by_cases h7 : x.a = 0 <;> by_cases h8 : x.op = 14 <;> simp [h3, h7, h8]
end Go.Abs

namespace Go.Abs
theorem bJ {α : Type} {d : α} {l : List α} {i : Int} (h : 0 ≤ i) (h2 : i < l.length) : nth l i = some (l.getD i.toNat d) := by
 rw [nth_int h h2]
 have : i.toNat < l.length := by omega
 simp [List.getD, List.getElem?_eq_getElem this]
theorem T6 {α : Type} {d : α} {l : List α} {i : Nat} (h : i < l.length) : nth l (i : Int) = some (l.getD i d) := by
 rw [m7 h]; simp [List.getD, List.getElem?_eq_getElem h]
theorem kJ (n : Int) : n = 1 ∨ n = 2 ∨ n = 3 ∨ n = 4 ∨ n = 5 ∨ n = 6 ∨ n = 7 ∨ n = 8 ∨ n = 9 ∨ n = 10 ∨ n = 11 ∨ n = 12 ∨ n = 13 ∨ n = 14 ∨ n = 15 ∨ n = 16 ∨ n = 17 ∨ n = 18 ∨ n = 19 ∨ n = 20 ∨ (¬ n = 1 ∧ ¬ n = 2 ∧ ¬ n = 3 ∧ ¬ n = 4 ∧ ¬ n = 5 ∧ ¬ n = 6 ∧ ¬ n = 7 ∧ ¬ n = 8 ∧ ¬ n = 9 ∧ ¬ n = 10 ∧ ¬ n = 11 ∧ ¬ n = 12 ∧ ¬ n = 13 ∧ ¬ n = 14 ∧ ¬ n = 15 ∧ ¬ n = 16 ∧ ¬ n = 17 ∧ ¬ n = 18 ∧ ¬ n = 19 ∧ ¬ n = 20) := by omega
def namedOp (x : PInstr) : Prop := x.op = 11 ∨ x.op = 18 ∨ x.op = 19 ∨ x.op = 20
instance (x : PInstr) : Decidable (namedOp x) := by unfold namedOp; infer_instance
theorem i_effect_eq (m : PImage) (x : PInstr) (h : namedOp x → 0 ≤ x.a ∧ x.a < m.codes.length) (ha : 0 ≤ x.a ∧ x.a ≤ 4000) : nA m x = some (effectOf m x) := by
 unfold nA effectOf
 rw [i6 (by omega), i6 (by omega)]
 by_cases hn : namedOp x
 ·obtain ⟨h1, h2⟩ := h hn
  rw [bJ (d := default) h1 h2]
  unfold namedOp at hn
  rcases hn with hn | hn | hn | hn <;> simp [hn]
 ·unfold namedOp at hn
  simp only [not_or] at hn
  obtain ⟨n1, n2, n3, n4⟩ := hn
  clear h
  rcases kJ x.op with h | h | h | h | h | h | h | h | h | h | h | h | h | h | h | h | h | h | h | h | h <;> first | exact absurd h n1 | exact absurd h n2 | exact absurd h n3 | exact absurd h n4 | simp [h]
theorem uT (m : PImage) (x : PInstr) (h : namedOp x → 0 ≤ x.a ∧ x.a < m.codes.length) (ha : 0 ≤ x.a ∧ x.a ≤ 4000) : cR m x = some (effectOf m x) := by
 unfold cR effectOf
 rw [i6 (by omega), i6 (by omega)]
 by_cases hn : namedOp x
 ·obtain ⟨h1, h2⟩ := h hn
  rw [bJ (d := default) h1 h2]
  unfold namedOp at hn
  rcases hn with hn | hn | hn | hn <;> simp [hn]
 ·unfold namedOp at hn
  simp only [not_or] at hn
  obtain ⟨n1, n2, n3, n4⟩ := hn
  clear h
  rcases kJ x.op with h | h | h | h | h | h | h | h | h | h | h | h | h | h | h | h | h | h | h | h | h <;> first | exact absurd h n1 | exact absurd h n2 | exact absurd h n3 | exact absurd h n4 | simp [h]
theorem prims_len {l : List (LB)} (h : D3 = some l) : (l.length : Int) = 14 := by
 simp only [D3, Option.some.injEq] at h; subst h; rfl
theorem s_prims : T9 = D3 := rfl
theorem vR : ∃ l, D3 = some l ∧ (l.length : Int) = 14 := ⟨_, rfl, rfl⟩
theorem uJ (m : PImage) (c : PCode) (k : Int) (x : PInstr) (ha : 0 ≤ x.a) (hk : k ≤ m.codes.length) : cD m c k x = some (fitsOf false m c k x) := by
 obtain ⟨l, hl, hl2⟩ := vR
 unfold cD O4 fitsOf
 rw [hl]
 simp only [f6, hl2]
 by_cases hx : x.a < k
 ·rw [bJ (d := default) ha (by omega)]
  simp only [f6, hx, if_true, decide_true, Bool.true_and]
  clear hl hl2
  by_cases h9 : c.params ≤ x.a <;> rcases kJ x.op with h | h | h | h | h | h | h | h | h | h | h | h | h | h | h | h | h | h | h | h | h <;> simp [h, h9]
 ·simp only [hx, if_false, decide_false, Bool.false_and]
  clear hl hl2
  by_cases h9 : c.params ≤ x.a <;> rcases kJ x.op with h | h | h | h | h | h | h | h | h | h | h | h | h | h | h | h | h | h | h | h | h <;> simp [h, h9]
theorem s_l10Fits_eq (m : PImage) (k : Nat) (x : PInstr) (ha : 0 ≤ x.a) (hk : k < m.codes.length) (hs : 0 ≤ (m.codes.getD k default).slots ∧ (m.codes.getD k default).slots ≤ 500) : jI m k x = some (fitsOf true m (m.codes.getD k default) k x) := by
 obtain ⟨l, hl, hl2⟩ := vR
 unfold jI V1 fitsOf
 rw [T6 (d := default) hk, s_prims, hl]
 simp only [f6, hl2]
 generalize m.codes.getD k default = c at hs ⊢
 rw [i6 (by omega), cT]
 simp only [f6]
 have e : inside x.a c.params (c.slots - 1) = (decide (c.params ≤ x.a) && decide (x.a < c.slots)) := by
  unfold inside; congr 1; exact decide_eq_decide.2 (by omega)
 rw [e]
 by_cases hx : x.a < k
 ·rw [bJ (d := default) ha (by omega)]
  simp only [f6, hx, if_true, decide_true, Bool.true_and]
  clear hl hl2
  rcases kJ x.op with h | h | h | h | h | h | h | h | h | h | h | h | h | h | h | h | h | h | h | h | h <;> simp [h]
 ·simp only [hx, if_false, decide_false, Bool.false_and]
  clear hl hl2
  rcases kJ x.op with h | h | h | h | h | h | h | h | h | h | h | h | h | h | h | h | h | h | h | h | h <;> simp [h]
theorem i_codeOk_eq (m : PImage) (k : Nat) (hm : m.small) (hk : k < m.codes.length) : mZ m k = some (codeOKs false m k) := by
 have hc := hm.2 _ (wY (d := default) hk)
 unfold mZ
 rw [T6 (d := default) hk, codeOK_c]
 simp only [f6]
 generalize m.codes.getD k default = c at hc ⊢
 unfold codeOKc headOK inside
 have hL : itr (lK m k c) LF 0 = some (c.instrs.all fun x => instrOK x && fitsOf false m c k x) := by
  rw [lN c.instrs (fun x => instrOK x && fitsOf false m c k x) (some true) (some false) (by have := hc.1; omega) (fun go i hi => ?_) (fun go => ?_)]
  ·cases (c.instrs.all fun x => instrOK x && fitsOf false m c k x) <;> rfl
  ·show P9 m k c go i = _
   unfold P9
   have := hc.1
   rw [if_pos (by omega), m7 hi, f6, pP _ (hc.2 _ (List.getElem_mem hi)), f6]
   cases h1 : instrOK c.instrs[i]
   ·rfl
   ·rw [uJ m c k _ (nD h1).1 (by omega), f6, if_pos rfl, i6 (by omega), Bool.true_and]
  ·show P9 m k c go _ = _
   unfold P9
   rw [if_neg (by omega)]
 rw [hL]
 by_cases h1 : c.params < 0
 ·have : decide (0 ≤ c.params) = false := by simp; omega
  simp [h1, this]
 ·have h1' : decide (0 ≤ c.params) = true := by simp; omega
  by_cases h2 : c.params > 8
  ·have : decide (c.params ≤ 8) = false := by simp; omega
   simp [h1, h2, this]
  ·have h2' : decide (c.params ≤ 8) = true := by simp; omega
   by_cases h3 : c.slots < c.params
   ·have : decide (c.params ≤ c.slots) = false := by simp; omega
    simp [h1, h2, h3, this]
   ·have h3' : decide (c.params ≤ c.slots) = true := by simp; omega
    by_cases h4 : c.slots > 500
    ·have : decide (c.slots ≤ 500) = false := by simp; omega
     simp [h1, h2, h3, h4, this]
    ·have h4' : decide (c.slots ≤ 500) = true := by simp; omega
     by_cases h5 : c.captures < 0
     ·have : decide (0 ≤ c.captures) = false := by simp; omega
      simp [h1, h2, h3, h4, h5, this]
     ·have h5' : decide (0 ≤ c.captures) = true := by simp; omega
      by_cases h6 : c.captures > 500
      ·have : decide (c.captures ≤ 500) = false := by simp; omega
       simp [h1, h2, h3, h4, h5, h6, this]
      ·have h6' : decide (c.captures ≤ 500) = true := by simp; omega
       by_cases h7 : (c.instrs.length : Int) < 1
       ·have : decide (1 ≤ (c.instrs.length : Int)) = false := by simp; omega
        simp [h1, h2, h3, h4, h5, h6, h7, this]
       ·have h7' : decide (1 ≤ (c.instrs.length : Int)) = true := by simp; omega
        by_cases h8 : (c.instrs.length : Int) > 4000
        ·have : decide ((c.instrs.length : Int) ≤ 4000) = false := by simp; omega
         simp [h1, h2, h3, h4, h5, h6, h7, h8, this]
        ·have h8' : decide ((c.instrs.length : Int) ≤ 4000) = true := by simp; omega
         simp only [h1, h2, h3, h4, h5, h6, h7, h8, h1', h2', h3', h4', h5', h6', h7', h8', if_false, Bool.and_self, Bool.true_and]
theorem oQ {c : PCode} (h : headOK c = true) : (0 ≤ c.slots ∧ c.slots ≤ 500) ∧ (0 ≤ c.captures ∧ c.captures ≤ 500) ∧ 1 ≤ c.instrs.length ∧ c.instrs.length ≤ 4000 := by
 unfold headOK inside at h
 simp only [Bool.and_eq_true, decide_eq_true_eq] at h
 omega
theorem s_l10Code_eq (m : PImage) (k : Nat) (hm : m.small) (hk : k < m.codes.length) : jG m k = some (codeOKs true m k) := by
 have hc := hm.2 _ (wY (d := default) hk)
 unfold jG
 rw [T6 (d := default) hk, codeOK_c]
 simp only [f6, cT]
 have hf := fun x => s_l10Fits_eq m k x
 generalize m.codes.getD k default = c at hc hf ⊢
 unfold codeOKc headOK
 cases h1 : inside c.params 0 8
 ·rfl
 cases h2 : inside c.slots c.params 500
 ·rfl
 cases h3 : inside c.captures 0 500
 ·rfl
 cases h4 : inside c.instrs.length 1 4000
 ·rfl
 have hh : headOK c = true := by unfold headOK; rw [h1, h2, h3, h4]; rfl
 simp only [if_true, Bool.true_and]
 rw [lN c.instrs (fun x => instrOK x && fitsOf true m c k x) (some true) (some false) (by have := hc.1; omega) (fun go i hi => ?_) (fun go => ?_)]
 ·cases (c.instrs.all fun x => instrOK x && fitsOf true m c k x) <;> rfl
 ·show M9 m k c go i = _
  unfold M9
  have := hc.1
  rw [if_pos (by omega), m7 hi, f6, nP _ (hc.2 _ (List.getElem_mem hi)), f6]
  cases h5 : instrOK c.instrs[i]
  ·rfl
  ·rw [hf _ (nD h5).1 hk (oQ hh).1, f6, if_pos rfl, i6 (by omega), Bool.true_and]
 ·show M9 m k c go _ = _
  unfold M9
  rw [if_neg (by omega)]
structure InsOK (m : PImage) (x : PInstr) : Prop where
 a : 0 ≤ x.a ∧ x.a ≤ 4000
 named : namedOp x → x.a < m.codes.length
 take : 0 ≤ (effectOf m x).1 ∧ (effectOf m x).1 ≤ 4001
theorem fits_named {s : Bool} {m : PImage} {c : PCode} {k : Int} {x : PInstr} (h : fitsOf s m c k x = true) (hn : namedOp x) : x.a < k := by
 unfold fitsOf at h
 unfold namedOp at hn
 rcases hn with hn | hn | hn | hn <;> simp [hn] at h <;> omega
theorem xE {m : PImage} {k : Nat} (hk : k < m.codes.length) (h : ∀ i, i ≤ k → codeOKs false m i = true) : ∀ x ∈ (m.codes.getD k default).instrs, InsOK m x := fun x hx => by
 have h0 := h k (Nat.le_refl _)
 unfold codeOKs at h0
 simp only [Bool.and_eq_true, List.all_eq_true] at h0
 have h1 := h0.2 x hx
 have h2 := nD h1.1
 have hn : namedOp x → x.a < k := fits_named h1.2
 refine ⟨⟨h2.1, h2.2.1⟩, fun hq => by have := hn hq; omega, ?_⟩
 unfold effectOf
 repeat' split
 all_goals try (dsimp only; omega)
 rename_i hq
 have hq' := hn hq
 have h3 := h x.a.toNat (by omega)
 unfold codeOKs at h3
 simp only [Bool.and_eq_true] at h3
 have := (oQ h3.1).2.1
 dsimp only
 omega
def putAll (i len v : Int) : LI → LI → Option (LI)
 | [], out => some out
 | k :: r, out => match putD i len v k out with | some o => putAll i len v r o | none => none
def dres : Option (LI) → LI × Bool
 | some o => (o, true)
 | none => ([], false)
def nextOf (i : Int) (x : PInstr) : LI := if x.op = 14 ∨ x.op = 13 then [] else if x.op = 15 then [x.a] else if x.op = 16 then [i + 1, x.a] else [i + 1]
theorem nG (i len v : Int) (x : PInstr) (out : LI) (h : x.op = 14 ∨ x.op = 13 → v = 0) : nextD i len v x out = putAll i len v (nextOf i x) out := by
 unfold nextD nextOf
 split
 ·rename_i hx; rw [if_pos (h hx)]; rfl
 ·split
  ·simp only [putAll]; cases putD i len v x.a out <;> rfl
  ·split
   ·simp only [putAll]
    cases h1 : putD i len v (i + 1) out with
    | none => rfl
    | some o => simp only; cases putD i len v x.a o <;> rfl
   ·simp only [putAll]; cases putD i len v (i + 1) out <;> rfl
theorem eX {i len v k : Int} {out : LI} (h : k ≤ i ∨ len ≤ k ∨ (0 ≤ at0 out k ∧ ¬ at0 out k = v)) : putD i len v k out = none := if_pos h
theorem nM {i len v k : Int} {out : LI} (h : ¬ (k ≤ i ∨ len ≤ k ∨ (0 ≤ at0 out k ∧ ¬ at0 out k = v))) : putD i len v k out = some (out.set k.toNat v) := if_neg h
theorem xN {out : LI} {k : Int} (h : 0 ≤ k) (h2 : k < out.length) : nth out k = some (at0 out k) := bJ h h2
theorem i_next_eq (c : PCode) (i : Int) (go : Int × LI → Option (LI × Bool)) (tl : Int × Int) (d : Int) (next : LI) (hi : 0 ≤ i) (hn : next.length ≤ 1000) (out0 : LI) (h0 : out0.length = c.instrs.length) :
 itr (bF c i go tl d next) LF (0, out0) = match putAll i c.instrs.length ((d - tl.1) + tl.2) next out0 with | some o => E7 i go o | none => some ([], false) := by
 rw [J7 (L := bF c i go tl d next) next.length (fun _ o => o.length = c.instrs.length) (fun j o => match putAll i c.instrs.length ((d - tl.1) + tl.2) (next.drop j) o with | some o => E7 i go o | none => some ([], false)) (by omega) (fun go2 j o hj ho hgo => ?_) (fun go2 o ho => ?_) h0]
 ·rw [List.drop_zero]
 ·show I9 c i go tl d next go2 j o = _
  unfold I9 G8
  rw [if_pos (by omega), m7 hj, f6, List.drop_eq_getElem_cons hj]
  simp only [putAll]
  generalize next[j] = k
  by_cases h1 : k ≤ i
  ·rw [if_pos h1, eX (.inl h1)]; rfl
  ·rw [if_neg h1]
   by_cases h2 : k ≥ c.instrs.length
   ·rw [if_pos h2, eX (.inr (.inl h2))]; rfl
   ·rw [if_neg h2, xN (by omega) (by omega), f6, f6, f6, i6 (by omega)]
    have hg := hgo (o.set k.toNat ((d - tl.1) + tl.2)) (by rw [List.length_set, ho])
    by_cases h3 : at0 o k ≥ 0
    ·rw [if_pos h3]
     by_cases h4 : at0 o k = (d - tl.1) + tl.2
     ·rw [nM (by omega), h4, hg]; simp
     ·rw [eX (.inr (.inr ⟨h3, h4⟩))]; simp [h4]
    ·rw [if_neg h3, nM (by omega), hg]; simp
 ·show I9 c i go tl d next go2 _ o = _
  unfold I9
  rw [if_neg (by omega), List.drop_length]; rfl
theorem s_next_eq (c : PCode) (i : Int) (go : Int × LI → Option (LI × Bool)) (tl : Int × Int) (d : Int) (next : LI) (hi : 0 ≤ i) (hn : next.length ≤ 1000) (hv : I64 ((d - tl.1) + tl.2)) (out0 : LI) (h0 : out0.length = c.instrs.length) :
 itr (Z3 c i go tl d next) LF (0, out0) = match putAll i c.instrs.length ((d - tl.1) + tl.2) next out0 with | some o => C8 i go o | none => some ([], false) := by
 rw [J7 (L := Z3 c i go tl d next) next.length (fun _ o => o.length = c.instrs.length) (fun j o => match putAll i c.instrs.length ((d - tl.1) + tl.2) (next.drop j) o with | some o => C8 i go o | none => some ([], false)) (by omega) (fun go2 j o hj ho hgo => ?_) (fun go2 o ho => ?_) h0]
 ·rw [List.drop_zero]
 ·show G2 c i go tl d next go2 j o = _
  unfold G2 F3
  rw [if_pos (by omega), m7 hj, f6, List.drop_eq_getElem_cons hj]
  simp only [putAll]
  generalize next[j] = k
  by_cases h1 : k ≤ i
  ·rw [if_pos h1, eX (.inl h1)]; rfl
  ·rw [if_neg h1]
   by_cases h2 : k ≥ c.instrs.length
   ·rw [if_pos h2, eX (.inr (.inl h2))]; rfl
   ·rw [if_neg h2, xN (by omega) (by omega), f6, f6, f6, i6 hv, i6 hv, i6 (by omega)]
    have hg := hgo (o.set k.toNat ((d - tl.1) + tl.2)) (by rw [List.length_set, ho])
    by_cases h3 : at0 o k ≥ 0
    ·rw [if_pos h3]
     by_cases h4 : at0 o k = (d - tl.1) + tl.2
     ·rw [nM (by omega), h4, hg]; simp
     ·rw [eX (.inr (.inr ⟨h3, h4⟩))]; simp [h4]
    ·rw [if_neg h3, nM (by omega), hg]; simp
 ·show G2 c i go tl d next go2 _ o = _
  unfold G2
  rw [if_neg (by omega), List.drop_length]; rfl
def runK (m : PImage) (len : Int) (i : Nat) (xs : List PInstr) : Option (LI) → Option (LI)
 | some o => runD m len i xs o
 | none => none
theorem runD_cons (m : PImage) (len : Int) (i : Nat) (x : PInstr) (r : List PInstr) (out : LI) : runD m len i (x :: r) out = runK m len (i + 1) r (stepD m len i x out) := by
 rw [runD]; unfold runK; cases stepD m len i x out <;> rfl
theorem vO (i : Int) (x : PInstr) : (nextOf i x).length ≤ 2 := by
 unfold nextOf
 repeat' split
 all_goals simp
theorem eff_ret {m : PImage} {x : PInstr} (h : x.op = 14 ∨ x.op = 13) : (effectOf m x).2 = 0 := by
 unfold effectOf
 rcases h with h | h <;> simp [h]
theorem i_run_eq (m : PImage) (c : PCode) (hc : c.instrs.length ≤ 4000) (hx : ∀ x ∈ c.instrs, InsOK m x) (out0 : LI) (h0 : out0.length = c.instrs.length) (hs : small500 out0) :
 itr (bE m c) LF (0, out0) = some (dres (runD m c.instrs.length 0 c.instrs out0)) := by
 rw [J7 (L := bE m c) c.instrs.length (fun _ o => o.length = c.instrs.length ∧ small500 o) (fun i o => some (dres (runD m c.instrs.length i (c.instrs.drop i) o))) (by omega) (fun go i o hi ho hgo => ?_) (fun go o ho => ?_) ⟨h0, hs⟩]
 ·rw [List.drop_zero]
 ·show I8 m c go i o = _
  unfold I8
  have hX := hx _ (List.getElem_mem hi)
  have h5 := tS ho.2 (i : Int)
  have hep := vK m c.instrs[i]
  rw [if_pos (by omega), m7 hi, f6, xN (by omega) (by omega), f6, List.drop_eq_getElem_cons hi]
  rw [runD_cons]
  unfold stepD
  have hJ : ∀ o', E7 i go o' = go ((i : Int) + 1, o') := fun o' => by unfold E7; rw [i6 (by omega)]
  rw [i_effect_eq m _ (fun hq => ⟨hX.a.1, hX.named hq⟩) hX.a, f6, f6, f6]
  have hr := @eff_ret m c.instrs[i]
  generalize c.instrs[i] = x at hX hep hr ⊢
  have ht := hX.take
  by_cases h1 : at0 o i < 0
  ·rw [if_pos h1, if_pos h1, hJ, hgo o ho]; rfl
  ·rw [if_neg h1, if_neg h1]
   by_cases h2 : (effectOf m x).1 > at0 o i
   ·rw [if_pos h2, if_pos h2]; rfl
   ·rw [if_neg h2, if_neg h2, i6 (by omega), i6 (by omega)]
    by_cases h3 : (at0 o i - (effectOf m x).1) + (effectOf m x).2 > 500
    ·rw [if_pos h3, if_pos h3]; rfl
    ·rw [if_neg h3, if_neg h3]
     have hnx : ∀ next : LI, next.length ≤ 2 → C5 c i o go (effectOf m x) (at0 o i) next = match putAll i c.instrs.length ((at0 o i - (effectOf m x).1) + (effectOf m x).2) next o with | some o' => go ((i : Int) + 1, o') | none => some ([], false) := fun next hl => by
      unfold C5
      rw [i_next_eq c i go _ _ next (by omega) (by omega) o ho.1]
      cases putAll i c.instrs.length ((at0 o i - (effectOf m x).1) + (effectOf m x).2) next o with
      | none => rfl
      | some o' => exact hJ o'
     have hfin : (x.op = 14 ∨ x.op = 13 → (at0 o i - (effectOf m x).1) + (effectOf m x).2 = 0) → C5 c i o go (effectOf m x) (at0 o i) (nextOf i x) = some (dres (runK m c.instrs.length (i + 1) (c.instrs.drop (i + 1)) (nextD i c.instrs.length ((at0 o i - (effectOf m x).1) + (effectOf m x).2) x o))) := fun hv => by
      rw [hnx _ (vO _ _), nG _ _ _ _ _ hv]
      cases hp : putAll i c.instrs.length ((at0 o i - (effectOf m x).1) + (effectOf m x).2) (nextOf i x) o with
      | none => rfl
      | some o' =>
       rw [← nG _ _ _ _ _ hv] at hp
       show go ((i : Int) + 1, o') = some (dres (runD m c.instrs.length (i + 1) (c.instrs.drop (i + 1)) o'))
       rw [hgo o' ⟨by rw [sQ hp]; exact ho.1, lQ ho.2 (by omega) hp⟩]
     unfold R3
     by_cases h4 : x.op = 14 ∨ x.op = 13
     ·have e : nextOf i x = [] := by unfold nextOf; rw [if_pos h4]
      have : (if x.op = 14 then true else decide (x.op = 13)) = true := by rcases h4 with h4 | h4 <;> simp [h4]
      by_cases h5 : (at0 o i - (effectOf m x).1) + (effectOf m x).2 = 0
      ·have hq := hfin (fun _ => h5)
       rw [e] at hq
       rcases h4 with h4 | h4
       ·simp only [h4, if_true, h5]; simp only [h4, h5] at hq; exact hq
       ·simp only [h4, if_true, h5]; simp only [h4, h5] at hq; simpa using hq
      ·have hn : nextD i c.instrs.length ((at0 o i - (effectOf m x).1) + (effectOf m x).2) x o = none := by unfold nextD; rw [if_pos h4, if_neg h5]
       rw [hn]
       rcases h4 with h4 | h4 <;> simp [h4, h5, dres, runK]
     ·have hq := hfin (fun h => absurd h h4)
      simp only [not_or] at h4
      rw [if_neg h4.1, if_neg (by simp [h4.2])]
      unfold nextOf at hq
      rw [if_neg (by simp [h4])] at hq
      rw [← hq]
      by_cases h6 : x.op = 15
      ·rw [if_pos h6, if_pos h6]
      ·rw [if_neg h6, if_neg h6, i6 (by omega), i6 (by omega)]
       by_cases h7 : x.op = 16
       ·rw [if_pos h7, if_pos h7]
       ·rw [if_neg h7, if_neg h7]
 ·show I8 m c go _ o = _
  unfold I8
  rw [if_neg (by omega), List.drop_length]; rfl
end Go.Abs

namespace Go.Abs
theorem s_run_eq (m : PImage) (c : PCode) (hc : c.instrs.length ≤ 4000) (hx : ∀ x ∈ c.instrs, InsOK m x) (out0 : LI) (h0 : out0.length = c.instrs.length) (hs : small500 out0) :
 itr (Z2 m c) LF (0, out0) = some (dres (runD m c.instrs.length 0 c.instrs out0)) := by
 rw [J7 (L := Z2 m c) c.instrs.length (fun _ o => o.length = c.instrs.length ∧ small500 o) (fun i o => some (dres (runD m c.instrs.length i (c.instrs.drop i) o))) (by omega) (fun go i o hi ho hgo => ?_) (fun go o ho => ?_) ⟨h0, hs⟩]
 ·rw [List.drop_zero]
 ·show G1 m c go i o = _
  unfold G1
  have hX := hx _ (List.getElem_mem hi)
  have h5 := tS ho.2 (i : Int)
  have hep := vK m c.instrs[i]
  rw [if_pos (by omega), m7 hi, f6, xN (by omega) (by omega), f6, List.drop_eq_getElem_cons hi]
  rw [runD_cons]
  unfold stepD
  have hJ : ∀ o', C8 i go o' = go ((i : Int) + 1, o') := fun o' => by unfold C8; rw [i6 (by omega)]
  rw [uT m _ (fun hq => ⟨hX.a.1, hX.named hq⟩) hX.a, f6, f6]
  have hr := @eff_ret m c.instrs[i]
  generalize c.instrs[i] = x at hX hep hr ⊢
  have ht := hX.take
  by_cases h1 : at0 o i < 0
  ·rw [if_pos h1, if_pos h1, hJ, hgo o ho]; rfl
  ·rw [if_neg h1, if_neg h1, i6 (by omega)]
   have hJ4 : u4 c i o go x (effectOf m x) (at0 o i) true = some ([], false) := rfl
   by_cases h2 : (at0 o i - (effectOf m x).1) < 0
   ·rw [if_pos h2, if_pos (show at0 o i < (effectOf m x).1 by omega), hJ4]; rfl
   ·rw [if_neg h2, if_neg (show ¬ at0 o i < (effectOf m x).1 by omega), i6 (by omega)]
    by_cases h3 : (at0 o i - (effectOf m x).1) + (effectOf m x).2 > 500
    ·rw [if_pos h3, if_pos h3, hJ4]; rfl
    ·rw [if_neg h3, if_neg h3]
     have hnx : ∀ next : LI, next.length ≤ 2 → A1 c i o go (effectOf m x) (at0 o i) next = match putAll i c.instrs.length ((at0 o i - (effectOf m x).1) + (effectOf m x).2) next o with | some o' => go ((i : Int) + 1, o') | none => some ([], false) := fun next hl => by
      unfold A1
      rw [s_next_eq c i go _ _ next (by omega) (by omega) ⟨by omega, by omega⟩ o ho.1]
      cases putAll i c.instrs.length ((at0 o i - (effectOf m x).1) + (effectOf m x).2) next o with
      | none => rfl
      | some o' => exact hJ o'
     have hfin : (x.op = 14 ∨ x.op = 13 → (at0 o i - (effectOf m x).1) + (effectOf m x).2 = 0) → A1 c i o go (effectOf m x) (at0 o i) (nextOf i x) = some (dres (runK m c.instrs.length (i + 1) (c.instrs.drop (i + 1)) (nextD i c.instrs.length ((at0 o i - (effectOf m x).1) + (effectOf m x).2) x o))) := fun hv => by
      rw [hnx _ (vO _ _), nG _ _ _ _ _ hv]
      cases hp : putAll i c.instrs.length ((at0 o i - (effectOf m x).1) + (effectOf m x).2) (nextOf i x) o with
      | none => rfl
      | some o' =>
       rw [← nG _ _ _ _ _ hv] at hp
       show go ((i : Int) + 1, o') = some (dres (runD m c.instrs.length (i + 1) (c.instrs.drop (i + 1)) o'))
       rw [hgo o' ⟨by rw [sQ hp]; exact ho.1, lQ ho.2 (by omega) hp⟩]
     have hf4 : u4 c i o go x (effectOf m x) (at0 o i) false = A1 c i o go (effectOf m x) (at0 o i) (nextOf i x) := by
      unfold u4 O6 nextOf
      rw [i6 (by omega)]
      by_cases h14 : x.op = 14
      ·simp [h14]
      ·by_cases h13 : x.op = 13
       ·simp [h13]
       ·by_cases h15 : x.op = 15
        ·simp [h15]
        ·by_cases h16 : x.op = 16
         ·rw [i6 (by simp)]; simp [h16]
         ·rw [i6 (by simp)]; simp [h14, h13, h15, h16]
     by_cases h4 : x.op = 14 ∨ x.op = 13
     ·have hz := hr h4
      by_cases h5' : (at0 o i - (effectOf m x).1) = 0
      ·have hq := hfin (fun _ => by omega)
       rcases h4 with h4 | h4
       ·have h13 : ¬ x.op = 13 := by omega
        rw [if_pos h4, if_pos h5', if_neg h13, hf4]; exact hq
       ·have h14 : ¬ x.op = 14 := by omega
        rw [if_neg h14, if_pos h4, h5']
        simp only [decide_true, Bool.not_true]
        rw [← h5', hf4]; exact hq
      ·have hn : nextD i c.instrs.length ((at0 o i - (effectOf m x).1) + (effectOf m x).2) x o = none := by unfold nextD; rw [if_pos h4, if_neg (by omega)]
       rw [hn]
       rcases h4 with h4 | h4
       ·rw [if_pos h4, if_neg h5', hJ4]; rfl
       ·have h14 : ¬ x.op = 14 := by omega
        rw [if_neg h14, if_pos h4]
        simp only [h5', decide_false, Bool.not_false]
        rfl
     ·have hq := hfin (fun h => absurd h h4)
      simp only [not_or] at h4
      rw [if_neg h4.1, if_neg h4.2, hf4]; exact hq
 ·show G1 m c go _ o = _
  unfold G1
  rw [if_neg (by omega), List.drop_length]; rfl
theorem fillM_0 (n : Nat) : fillM n 0 = List.replicate n 0 := by simp [fillM]
theorem tT (n : Nat) : small500 ((List.replicate n (-1)).set 0 0) := qA (fun v hv => by rw [List.eq_of_mem_replicate hv]; omega) ⟨by decide, by decide⟩ _
theorem xB (m : PImage) (k : Nat) (hk : k < m.codes.length) (h1 : 1 ≤ (m.codes.getD k default).instrs.length) (h2 : (m.codes.getD k default).instrs.length ≤ 4000) (hx : ∀ x ∈ (m.codes.getD k default).instrs, InsOK m x) :
 eQ m k = some (dres (depthsOf m k)) := by
 unfold eQ depthsOf
 rw [T6 (d := default) hk, f6]
 generalize m.codes.getD k default = c at h1 h2 hx ⊢
 rw [i6 (by omega), Int.toNat_natCast]
 rw [J7 (L := fS m c) c.instrs.length (fun i o => o = fillM c.instrs.length i) (fun _ _ => some (dres (runD m c.instrs.length 0 c.instrs ((List.replicate c.instrs.length (-1)).set 0 0)))) (by omega) (fun go i o hi ho hgo => ?_) (fun go o ho => ?_) (fillM_0 _).symm]
 ·show I7 m c go i o = _
  unfold I7
  subst ho
  have hl := mP (n := c.instrs.length) (i := i) (by omega)
  rw [if_pos (by simp; omega), T6 (d := 0) (by omega), f6, i6 (by omega), Int.toNat_natCast, zG hi, hgo _ rfl]
 ·show I7 m c go _ o = _
  unfold I7
  subst ho
  have hl := mP (n := c.instrs.length) (i := c.instrs.length) (by omega)
  rw [if_neg (by simp), show (0 : Int) = ((0 : Nat) : Int) from rfl, T6 (d := 0) (by omega), f6, zF]
  exact i_run_eq m c h2 hx _ (by simp) (tT _)
theorem uR (m : PImage) (k : Nat) (hk : k < m.codes.length) (h1 : 1 ≤ (m.codes.getD k default).instrs.length) (h2 : (m.codes.getD k default).instrs.length ≤ 4000) (hx : ∀ x ∈ (m.codes.getD k default).instrs, InsOK m x) :
 cQ m k = some (dres (depthsOf m k)) := by
 unfold cQ depthsOf
 rw [T6 (d := default) hk, f6]
 generalize m.codes.getD k default = c at h1 h2 hx ⊢
 rw [i6 (by omega), Int.toNat_natCast]
 rw [J7 (L := eC m c) c.instrs.length (fun i o => o = fillM c.instrs.length i) (fun _ _ => some (dres (runD m c.instrs.length 0 c.instrs ((List.replicate c.instrs.length (-1)).set 0 0)))) (by omega) (fun go i o hi ho hgo => ?_) (fun go o ho => ?_) (fillM_0 _).symm]
 ·show G0 m c go i o = _
  unfold G0
  subst ho
  have hl := mP (n := c.instrs.length) (i := i) (by omega)
  rw [if_pos (by simp; omega), T6 (d := 0) (by omega), f6, i6 (by omega), Int.toNat_natCast, zG hi, hgo _ rfl]
 ·show G0 m c go _ o = _
  unfold G0
  subst ho
  have hl := mP (n := c.instrs.length) (i := c.instrs.length) (by omega)
  rw [if_neg (by simp), if_neg (by omega), show (0 : Int) = ((0 : Nat) : Int) from rfl, T6 (d := 0) (by omega), f6, zF]
  exact s_run_eq m c h2 hx _ (by simp) (tT _)
theorem wQ {s : Bool} {m : PImage} {k : Nat} (h : codeOKs s m k = true) : 1 ≤ (m.codes.getD k default).instrs.length ∧ (m.codes.getD k default).instrs.length ≤ 4000 := by
 unfold codeOKs at h
 simp only [Bool.and_eq_true] at h
 exact (oQ h.1).2.2
def stackOf (m : PImage) (code : Int) : LI × Bool :=
 if code < 0 ∨ m.codes.length ≤ code then ([], false)
 else if (List.range (code.toNat + 1)).all (fun k => codeOKs false m k) then dres (depthsOf m code.toNat) else ([], false)
theorem all_range_succ (n : Nat) (p : Nat → Bool) : (List.range (n + 1)).all p = ((List.range n).all p && p n) := by
 rw [List.range_succ, List.all_append]; simp
def bumpI (t : LI) (x : PInstr) : LI := if namedOp x then t.set x.a.toNat (t.getD x.a.toNat 0 + 1) else t
def bumpIs (xs : List PInstr) (t : LI) : LI := xs.foldl bumpI t
def bumpCs (cs : List PCode) (t : LI) : LI := cs.foldl (fun t c => bumpIs c.instrs t) t
def totalOf (cs : List PCode) : Int := cs.foldl (fun n c => n + (c.instrs.length : Int)) 0
def codesOK (m : PImage) : Bool := (List.range m.codes.length).all fun k => codeOKs false m k && (depthsOf m k).isSome
def onceOK (m : PImage) : Bool := ((bumpCs m.codes (List.replicate m.codes.length 0)).take (m.codes.length - 1)).all fun n => decide (n = 1)
def isImg (m : PImage) (captures : Int) : Bool :=
 inside m.codes.length 1 1500 && (decide (m.main = (m.codes.length : Int) - 1) && (decide ((m.codes.getD (m.codes.length - 1) default).params = 0) && (decide ((m.codes.getD (m.codes.length - 1) default).captures = captures) &&
  (codesOK m && (decide (totalOf m.codes ≤ 16000) && onceOK m)))))
theorem rL (t : LI) (x : PInstr) : (bumpI t x).length = t.length := by unfold bumpI; split <;> simp
theorem oN : ∀ (xs : List PInstr) (t : LI), (bumpIs xs t).length = t.length
 | [], t => rfl
 | x :: xs, t => by show (bumpIs xs (bumpI t x)).length = _; rw [oN xs, rL]
def low (b : Int) (t : LI) : Prop := ∀ v ∈ t, 0 ≤ v ∧ v ≤ b
theorem low_get {b : Int} {t : LI} (h : low b t) (hb : 0 ≤ b) (i : Nat) : 0 ≤ t.getD i 0 ∧ t.getD i 0 ≤ b := by
 by_cases hi : i < t.length
 ·rw [List.getD, List.getElem?_eq_getElem hi]; exact h _ (List.getElem_mem hi)
 ·rw [List.getD, List.getElem?_eq_none (by omega)]; simp; exact hb
theorem rN {b : Int} {t : LI} (h : low b t) (hb : 0 ≤ b) (x : PInstr) : low (b + 1) (bumpI t x) := by
 unfold bumpI
 split
 ·intro v hv
  have hg := low_get h hb x.a.toNat
  rcases List.mem_or_eq_of_mem_set hv with hv | rfl
  ·have := h v hv; omega
  ·omega
 ·intro v hv; have := h v hv; omega
theorem namesCode_eq (op : Int) : cC op = some (decide (op = 11 ∨ op = 18 ∨ op = 19 ∨ op = 20)) := by
 unfold cC
 by_cases h1 : op = 11 <;> by_cases h2 : op = 18 <;> by_cases h3 : op = 19 <;> simp [h1, h2, h3]
theorem l10Inside_eq (op : Int) : cS op = some (decide (op = 11 ∨ op = 18 ∨ op = 19 ∨ op = 20)) := by
 unfold cS
 by_cases h1 : op = 11 <;> by_cases h2 : op = 18 <;> by_cases h3 : op = 19 <;> simp [h1, h2, h3]
def InsOK' (n : Nat) (x : PInstr) : Prop := namedOp x → 0 ≤ x.a ∧ x.a < n
theorem i_count_eq (total x6 : Int) (go8 : Int × Int × LI → Option Bool) (c : PCode) (n : Nat) (b : Int) (hb : 0 ≤ b ∧ b ≤ 1000000000) (hx6 : 0 ≤ x6 ∧ x6 ≤ 2000) (hc : c.instrs.length ≤ 4000) (hx : ∀ x ∈ c.instrs, InsOK' n x) (t : LI) (ht : t.length = n) (hlow : low b t) :
 itr (dI total x6 go8 c) LF (0, t) = go8 (total + (c.instrs.length : Int), x6 + 1, bumpIs c.instrs t) := by
 rw [J7 (L := dI total x6 go8 c) c.instrs.length (fun i t => t.length = n ∧ low (b + i) t) (fun i t => go8 (total + (c.instrs.length : Int), x6 + 1, bumpIs (c.instrs.drop i) t)) (by omega) (fun go i t hi ht hgo => ?_) (fun go t ht => ?_) ⟨ht, by simpa using hlow⟩]
 ·rw [List.drop_zero]
 ·show L6 total x6 go8 c go i t = _
  unfold L6 U6
  have hX := hx _ (List.getElem_mem hi)
  rw [if_pos (by omega), m7 hi, f6, namesCode_eq, f6, i6 (by omega), List.drop_eq_getElem_cons hi]
  show _ = go8 (total + (c.instrs.length : Int), x6 + 1, bumpIs (c.instrs.drop (i + 1)) (bumpI t c.instrs[i]))
  have hl := rN ht.2 (by omega) c.instrs[i]
  have hll := rL t c.instrs[i]
  have hg := hgo (bumpI t c.instrs[i]) ⟨by rw [hll, ht.1], by rw [show b + ((i + 1 : Nat) : Int) = b + i + 1 by omega]; exact hl⟩
  rw [← hg]
  clear hg hl hll hgo
  generalize c.instrs[i] = x at hX ⊢
  unfold bumpI
  by_cases hn : namedOp x
  ·have ha := hX hn
   have hv := low_get ht.2 (by omega) x.a.toNat
   have hn' : decide (x.op = 11 ∨ x.op = 18 ∨ x.op = 19 ∨ x.op = 20) = true := decide_eq_true hn
   rw [hn', if_pos rfl, if_pos hn, bJ (d := 0) ha.1 (by omega), f6, f6, i6 (by omega), i6 (by omega)]
  ·have hn' : decide (x.op = 11 ∨ x.op = 18 ∨ x.op = 19 ∨ x.op = 20) = false := decide_eq_false hn
   rw [hn', if_neg hn]
   simp
 ·show L6 total x6 go8 c go _ t = _
  unfold L6
  rw [if_neg (by omega), i6 (by omega), List.drop_length]; rfl
theorem s_count_eq (x2 : Int) (go4 : Int × LI → Option Bool) (c : PCode) (n : Nat) (b : Int) (hb : 0 ≤ b ∧ b ≤ 1000000000) (hx2 : 0 ≤ x2 ∧ x2 ≤ 2000) (hc : c.instrs.length ≤ 4000) (hx : ∀ x ∈ c.instrs, InsOK' n x) (t : LI) (ht : t.length = n) (hlow : low b t) :
 itr (dQ x2 go4 c) LF (0, t) = go4 (x2 + 1, bumpIs c.instrs t) := by
 rw [J7 (L := dQ x2 go4 c) c.instrs.length (fun i t => t.length = n ∧ low (b + i) t) (fun i t => go4 (x2 + 1, bumpIs (c.instrs.drop i) t)) (by omega) (fun go i t hi ht hgo => ?_) (fun go t ht => ?_) ⟨ht, by simpa using hlow⟩]
 ·rw [List.drop_zero]
 ·show N2 x2 go4 c go i t = _
  unfold N2 V3
  have hX := hx _ (List.getElem_mem hi)
  rw [if_pos (by omega), m7 hi, f6, l10Inside_eq, f6, i6 (by omega), List.drop_eq_getElem_cons hi]
  show _ = go4 (x2 + 1, bumpIs (c.instrs.drop (i + 1)) (bumpI t c.instrs[i]))
  have hl := rN ht.2 (by omega) c.instrs[i]
  have hll := rL t c.instrs[i]
  have hg := hgo (bumpI t c.instrs[i]) ⟨by rw [hll, ht.1], by rw [show b + ((i + 1 : Nat) : Int) = b + i + 1 by omega]; exact hl⟩
  rw [← hg]
  clear hg hl hll hgo
  generalize c.instrs[i] = x at hX ⊢
  unfold bumpI
  by_cases hn : namedOp x
  ·have ha := hX hn
   have hv := low_get ht.2 (by omega) x.a.toNat
   have hn' : decide (x.op = 11 ∨ x.op = 18 ∨ x.op = 19 ∨ x.op = 20) = true := decide_eq_true hn
   rw [hn', if_pos rfl, if_pos hn, bJ (d := 0) ha.1 (by omega), f6, f6, i6 (by omega), i6 (by omega)]
  ·have hn' : decide (x.op = 11 ∨ x.op = 18 ∨ x.op = 19 ∨ x.op = 20) = false := decide_eq_false hn
   rw [hn', if_neg hn]
   simp
 ·show N2 x2 go4 c go _ t = _
  unfold N2
  rw [if_neg (by omega), i6 (by omega), List.drop_length]; rfl
end Go.Abs

namespace Go.Abs
def okOne (m : PImage) (k : Nat) : Bool := codeOKs false m k && (depthsOf m k).isSome
def okFrom (m : PImage) (k : Nat) : Bool := (List.range' k (m.codes.length - k)).all (okOne m)
theorem okFrom_0 (m : PImage) : okFrom m 0 = codesOK m := by unfold okFrom codesOK; rw [List.range_eq_range']; rfl
theorem sS {m : PImage} {k : Nat} (h : k < m.codes.length) : okFrom m k = (okOne m k && okFrom m (k + 1)) := by
 unfold okFrom
 rw [show m.codes.length - k = (m.codes.length - (k + 1)) + 1 by omega, List.range'_succ, List.all_cons]
theorem vQ (m : PImage) : okFrom m m.codes.length = true := by unfold okFrom; simp
def addT (n : Int) (cs : List PCode) : Int := cs.foldl (fun n c => n + (c.instrs.length : Int)) n
theorem oO : ∀ (xs : List PInstr) {b : Int} {t : LI}, low b t → 0 ≤ b → low (b + xs.length) (bumpIs xs t)
 | [], b, t, h, _ => by simpa [bumpIs] using h
 | x :: xs, b, t, h, hb => by
  have h1 := oO xs (rN h hb x) (by omega)
  show low _ (bumpIs xs (bumpI t x))
  rw [show b + ((x :: xs).length : Int) = b + 1 + (xs.length : Int) by simp; omega]
  exact h1
theorem zV {m : PImage} {c : PCode} (h : ∀ x ∈ c.instrs, InsOK m x) : ∀ x ∈ c.instrs, InsOK' m.codes.length x := fun x hx hn => ⟨(h x hx).a.1, (h x hx).named hn⟩
theorem low_mono {b b' : Int} {t : LI} (h : low b t) (hb : b ≤ b') : low b' t := fun v hv => by have := h v hv; omega
theorem low_zero (n : Nat) : low 0 (List.replicate n 0) := fun v hv => by rw [List.eq_of_mem_replicate hv]; omega
theorem dres_snd (o : Option (LI)) : (dres o).2 = o.isSome := by cases o <;> rfl
def imgRest (m : PImage) (total : Int) (k : Nat) (t : LI) : Bool :=
 okFrom m k && (((bumpCs (m.codes.drop k) t).take (m.codes.length - 1)).all (fun n => decide (n = 1)) && decide (addT total (m.codes.drop k) ≤ 16000))
theorem i_loop_eq (m : PImage) (hm : m.small) (hn : 1 ≤ m.codes.length ∧ m.codes.length ≤ 1500) : itr (iK m) LF (0, 0, List.replicate m.codes.length 0) = some (imgRest m 0 0 (List.replicate m.codes.length 0)) := by
 refine lB (fun v : Int × Int × LI => some (imgRest m v.1 v.2.1.toNat v.2.2)) (fun v => (0 ≤ v.2.1 ∧ v.2.1 ≤ m.codes.length) ∧ (∀ i : Nat, (i : Int) < v.2.1 → codeOKs false m i = true) ∧ (0 ≤ v.1 ∧ v.1 ≤ 4000 * v.2.1) ∧ v.2.2.length = m.codes.length ∧ low (4000 * v.2.1) v.2.2) (fun v => m.codes.length - v.2.1.toNat) (fun go v hv hgo => ?_) (0, 0, List.replicate m.codes.length 0) ⟨⟨by simp, by simp⟩, fun i hi => by dsimp only at hi; omega, ⟨by simp, by simp⟩, by simp, by simpa using low_zero _⟩ (by simp; omega)
 obtain ⟨total, k0, t⟩ := v
 obtain ⟨⟨hk0, hk1⟩, hok, ht, hl, hlow⟩ := hv
 dsimp only at hk0 hk1 hok ht hl hlow ⊢
 obtain ⟨k, rfl⟩ := Int.eq_ofNat_of_zero_le hk0
 rw [Int.toNat_natCast]
 show W1 m go total k t = _
 unfold W1
 by_cases hk : (k : Int) < m.codes.length
 ·have hkn : k < m.codes.length := by omega
  have hcs := hm.2 _ (wY (d := default) hkn)
  have hdrop : m.codes.drop k = m.codes.getD k default :: m.codes.drop (k + 1) := iE hkn
  rw [if_pos hk, T6 (d := default) hkn, f6, i_codeOk_eq m k hm hkn, f6]
  unfold imgRest
  rw [sS hkn]
  unfold okOne
  cases hc : codeOKs false m k
  ·rw [if_neg (by simp)]; simp
  ·have hall : ∀ i, i ≤ k → codeOKs false m i = true := fun i hi => by
    by_cases e : i = k
    ·subst e; exact hc
    ·exact hok i (by omega)
   have hlen := wQ hc
   have hins := xE hkn hall
   rw [if_pos rfl, xB m k hkn hlen.1 hlen.2 hins, f6, dres_snd]
   cases hd : (depthsOf m k).isSome
   ·rw [if_neg (by simp)]; simp
   ·rw [if_pos rfl, i6 (by omega), hdrop]
    rw [i_count_eq total k go (m.codes.getD k default) m.codes.length (4000 * k) (by omega) (by omega) hlen.2 (zV hins) t hl hlow]
    have hb := oO (m.codes.getD k default).instrs hlow (by omega)
    rw [hgo (total + ((m.codes.getD k default).instrs.length : Int), (k : Int) + 1, bumpIs (m.codes.getD k default).instrs t)
     ⟨⟨by dsimp only; omega, by dsimp only; omega⟩, fun i hi => hall i (by dsimp only at hi; omega), ⟨by dsimp only; omega, by dsimp only; omega⟩, by dsimp only; rw [oN]; exact hl, low_mono hb (by dsimp only; omega)⟩ (by dsimp only; omega)]
    dsimp only
    rw [show ((k : Int) + 1).toNat = k + 1 by omega]
    unfold imgRest
    simp only [Bool.true_and]
    rfl
 ·have hkn : k = m.codes.length := by omega
  subst hkn
  rw [if_neg hk, i6 (by omega), i6 (by omega)]
  unfold imgRest
  rw [vQ, List.drop_length, Bool.true_and]
  have e : ((m.codes.length : Int) - 1).toNat = m.codes.length - 1 := by omega
  show itr (dJ m total t) LF 0 = some (((t.take (m.codes.length - 1)).all fun n => decide (n = 1)) && decide (total ≤ 16000))
  rw [lN (L := dJ m total t) (t.take (m.codes.length - 1)) (fun n => decide (n = 1)) (some (decide (total ≤ 16000))) (some false) (by simp; omega) (fun go i hi => ?_) (fun go => ?_)]
  ·cases ((t.take (m.codes.length - 1)).all fun n => decide (n = 1)) <;> simp
  ·show L7 m total t go i = _
   unfold L7
   have hi' := hi
   rw [List.length_take] at hi'
   rw [e, if_pos (by rw [List.length_take]; omega), m7 hi, f6, i6 (by omega)]
   by_cases h1 : (t.take (m.codes.length - 1))[i] = 1 <;> simp [h1]
  ·show L7 m total t go _ = _
   unfold L7
   rw [e, if_neg (by omega)]
theorem zQ (m : PImage) (hm : m.small) (captures : Int) : iJ m captures = some (isImg m captures) := by
 unfold iJ isImg inside
 by_cases h1 : (m.codes.length : Int) < 1
 ·have : decide (1 ≤ (m.codes.length : Int)) = false := by simp; omega
  rw [if_pos h1, this]; rfl
 ·have h1' : decide (1 ≤ (m.codes.length : Int)) = true := by simp; omega
  by_cases h2 : (m.codes.length : Int) > 1500
  ·have : decide ((m.codes.length : Int) ≤ 1500) = false := by simp; omega
   rw [if_neg h1, if_pos h2, h1', this]; rfl
  ·have h2' : decide ((m.codes.length : Int) ≤ 1500) = true := by simp; omega
   rw [if_neg h1, if_neg h2, h1', h2', i6 (by omega), i6 (by omega), i6 (by omega)]
   rw [bJ (d := default) (by omega) (by omega), f6, f6, i6 (by omega), show ((m.codes.length : Int) - 1).toNat = m.codes.length - 1 by omega, Int.toNat_natCast, i_loop_eq m hm (by omega)]
   by_cases h3 : m.main = (m.codes.length : Int) - 1
   ·rw [if_pos h3]
    by_cases h4 : (m.codes.getD (m.codes.length - 1) default).params = 0
    ·rw [if_pos h4]
     by_cases h5 : (m.codes.getD (m.codes.length - 1) default).captures = captures
     ·rw [if_pos h5]
      unfold imgRest
      rw [okFrom_0, List.drop_zero]
      simp only [h3, h4, h5, decide_true, Bool.true_and]
      congr 2
      exact Bool.and_comm _ _
     ·rw [if_neg h5]; simp only [h5, decide_false, Bool.and_false, Bool.false_and]
    ·rw [if_neg h4]; simp only [h4, decide_false, Bool.and_false, Bool.false_and]
   ·rw [if_neg h3]; simp only [h3, decide_false, Bool.and_false, Bool.false_and]
theorem s_tree_eq (m : PImage) (hm : m.small) (hn : 1 ≤ m.codes.length ∧ m.codes.length ≤ 1500) (hmain : m.main = (m.codes.length : Int) - 1) (hall : ∀ i, i < m.codes.length → codeOKs false m i = true) : jK m = some (onceOK m) := by
 unfold jK
 rw [i6 (by omega), Int.toNat_natCast]
 unfold onceOK
 rw [J7 (L := jL m) m.codes.length (fun k t => t.length = m.codes.length ∧ low (4000 * k) t) (fun k t => some (((bumpCs (m.codes.drop k) t).take (m.codes.length - 1)).all fun n => decide (n = 1))) (by omega) (fun go k t hk ht hgo => ?_) (fun go t ht => ?_) ⟨by simp, by simpa using low_zero _⟩]
 ·rw [List.drop_zero]
 ·show N1 m go k t = _
  unfold N1
  have hdrop : m.codes.drop k = m.codes.getD k default :: m.codes.drop (k + 1) := iE hk
  have hlen := wQ (hall k hk)
  have hins := xE hk (fun i hi => hall i (by omega))
  rw [if_pos (by omega), T6 (d := default) hk, f6, s_count_eq k go (m.codes.getD k default) m.codes.length (4000 * k) (by omega) (by omega) hlen.2 (zV hins) t ht.1 ht.2, hdrop]
  have hb := oO (m.codes.getD k default).instrs ht.2 (by omega)
  rw [hgo _ ⟨by rw [oN]; exact ht.1, low_mono hb (by omega)⟩]
  rfl
 ·show N1 m go _ t = _
  unfold N1
  rw [if_neg (by omega), List.drop_length]
  show itr (dR m t) LF 0 = some ((t.take (m.codes.length - 1)).all fun n => decide (n = 1))
  rw [iS (L := dR m t) t.length (fun i => some (((t.take (m.codes.length - 1)).drop i).all fun n => decide (n = 1))) (by omega) (fun go i hi hgo => ?_) (fun go => ?_)]
  ·rw [List.drop_zero]
  ·show N3 m t go i = _
   unfold N3 V4
   rw [if_pos (by omega), m7 hi, f6, i6 (by omega)]
   by_cases h1 : t[i] = 1
   ·rw [if_pos h1, if_neg (by simp), hgo]
    by_cases h2 : i < m.codes.length - 1
    ·have hi2 : i < (t.take (m.codes.length - 1)).length := by rw [List.length_take]; omega
     rw [List.drop_eq_getElem_cons hi2, List.all_cons]
     simp [h1]
    ·rw [List.drop_eq_nil_of_le (by rw [List.length_take]; omega), List.drop_eq_nil_of_le (by rw [List.length_take]; omega)]
   ·rw [if_neg h1]
    by_cases h2 : (i : Int) = m.main
    ·simp only [h2, decide_true, Bool.not_true, Bool.false_eq_true, if_false]
     rw [← h2, hgo, List.drop_eq_nil_of_le (by rw [List.length_take]; omega), List.drop_eq_nil_of_le (by rw [List.length_take]; omega)]
    ·simp only [h2, decide_false, Bool.not_false, if_true]
     have hi2 : i < (t.take (m.codes.length - 1)).length := by rw [List.length_take]; omega
     rw [List.drop_eq_getElem_cons hi2, List.all_cons]
     simp [h1]
  ·show N3 m t go _ = _
   unfold N3
   rw [if_neg (by omega), List.drop_eq_nil_of_le (by rw [List.length_take]; omega)]
   rfl
def sRest (m : PImage) (total : Int) (k : Nat) : Bool := okFrom m k && (decide (addT total (m.codes.drop k) ≤ 16000) && onceOK m)
theorem s_loop_eq (m : PImage) (hm : m.small) (hn : 1 ≤ m.codes.length ∧ m.codes.length ≤ 1500) (hmain : m.main = (m.codes.length : Int) - 1) : itr (jF m) LF (0, 0) = some (sRest m 0 0) := by
 refine lB (fun v : Int × Int => some (sRest m v.1 v.2.toNat)) (fun v => (0 ≤ v.2 ∧ v.2 ≤ m.codes.length) ∧ (∀ i : Nat, (i : Int) < v.2 → codeOKs false m i = true) ∧ (0 ≤ v.1 ∧ v.1 ≤ 4000 * v.2)) (fun v => m.codes.length - v.2.toNat) (fun go v hv hgo => ?_) (0, 0) ⟨⟨by simp, by simp⟩, fun i hi => by dsimp only at hi; omega, by simp, by simp⟩ (by simp; omega)
 obtain ⟨total, k0⟩ := v
 obtain ⟨⟨hk0, hk1⟩, hok, ht⟩ := hv
 dsimp only at hk0 hk1 hok ht ⊢
 obtain ⟨k, rfl⟩ := Int.eq_ofNat_of_zero_le hk0
 rw [Int.toNat_natCast]
 show W7 m go total k = _
 unfold W7
 by_cases hk : (k : Int) < m.codes.length
 ·have hkn : k < m.codes.length := by omega
  have hdrop : m.codes.drop k = m.codes.getD k default :: m.codes.drop (k + 1) := iE hkn
  rw [if_pos hk, s_l10Code_eq m k hm hkn, f6, codeOK_same (fun i hi => hok i (by omega)), T6 (d := default) hkn]
  unfold sRest
  rw [sS hkn]
  unfold okOne
  cases hc : codeOKs false m k
  ·rw [if_neg (by simp)]; simp
  ·have hall : ∀ i, i ≤ k → codeOKs false m i = true := fun i hi => by
    by_cases e : i = k
    ·subst e; exact hc
    ·exact hok i (by omega)
   have hlen := wQ hc
   have hins := xE hkn hall
   rw [if_pos rfl, uR m k hkn hlen.1 hlen.2 hins, f6, dres_snd]
   cases hd : (depthsOf m k).isSome
   ·rw [if_neg (by simp)]; simp
   ·rw [if_pos rfl, f6, i6 (by omega), i6 (by omega), hdrop]
    rw [hgo (total + ((m.codes.getD k default).instrs.length : Int), (k : Int) + 1) ⟨⟨by dsimp only; omega, by dsimp only; omega⟩, fun i hi => hall i (by dsimp only at hi; omega), by dsimp only; omega, by dsimp only; omega⟩ (by dsimp only; omega)]
    dsimp only
    rw [show ((k : Int) + 1).toNat = k + 1 by omega]
    unfold sRest
    simp only [Bool.true_and]
    rfl
 ·have hkn : k = m.codes.length := by omega
  subst hkn
  rw [if_neg hk]
  unfold sRest
  rw [vQ, List.drop_length, Bool.true_and]
  show (if total ≤ 16000 then _ else _) = some (decide (total ≤ 16000) && onceOK m)
  by_cases h1 : total ≤ 16000
  ·rw [if_pos h1, s_tree_eq m hm hn hmain (fun i hi => hok i (by omega)), f6]; simp [h1]
  ·rw [if_neg h1]; simp [h1]
theorem s_IsImage_eq (m : PImage) (hm : m.small) (captures : Int) : jE m captures = some (isImg m captures) := by
 have hm1 := hm.1
 unfold jE isImg
 rw [cT, f6, i6 (by omega)]
 cases h1 : inside m.codes.length 1 1500
 ·rfl
 ·have h1' : 1 ≤ m.codes.length ∧ m.codes.length ≤ 1500 := by
   unfold inside at h1
   simp only [Bool.and_eq_true, decide_eq_true_eq] at h1
   omega
  rw [if_pos rfl]
  by_cases h3 : m.main = (m.codes.length : Int) - 1
  ·rw [if_pos h3, h3, bJ (d := default) (by omega) (by omega), f6, f6, show ((m.codes.length : Int) - 1).toNat = m.codes.length - 1 by omega, s_loop_eq m hm h1' h3]
   by_cases h4 : (m.codes.getD (m.codes.length - 1) default).params = 0
   ·rw [if_pos h4]
    by_cases h5 : (m.codes.getD (m.codes.length - 1) default).captures = captures
    ·rw [if_pos h5]
     unfold sRest
     rw [okFrom_0, List.drop_zero]
     simp only [h4, h5, decide_true, Bool.true_and]
     rfl
    ·rw [if_neg h5]; simp only [h5, decide_false, Bool.and_false, Bool.false_and]
   ·rw [if_neg h4]; simp only [h4, decide_false, Bool.and_false, Bool.false_and]
  ·rw [if_neg h3]; simp only [h3, decide_false, Bool.and_false, Bool.false_and]
end Go.Abs

namespace Go.Abs
open PD
mutual
def wD : PD → Nat
 | .mk _ _ t is => t.length + wDs is
def wDs : List PD → Nat
 | [] => 0
 | d :: r => 1 + wD d + wDs r
end
theorem kV (d : PD) : wD d = d.text.length + wDs d.items := by cases d; rfl
theorem wDs_eq : ∀ ds : List PD, wDs ds = wts wD ds
 | [] => rfl
 | d :: r => by have := wDs_eq r; unfold wts at *; simp [wDs]; omega
theorem jR : ∀ {ds : List PD} {x : PD}, x ∈ ds → wD x < wDs ds
 | d :: r, x, h => by
  unfold wDs
  rcases List.mem_cons.1 h with rfl | h
  ·omega
  ·have := jR h; omega
theorem pJ : (∀ d : PD, d.cnt ≤ wD d) ∧ ∀ ds : List PD, cnts ds ≤ wDs ds := by
 refine ind (fun ds h => ?_) (fun d h => ?_)
 ·induction ds with
  | nil => simp [cnts]
  | cons x r ih => have := h x (by simp); have := ih (fun y hy => h y (by simp [hy])); unfold cnts wDs; omega
 ·rw [cnt_eq, kV]; omega
theorem short_wD : (∀ d : PD, wD d ≤ 1048576 → d.short) ∧ ∀ ds : List PD, wDs ds ≤ 1048576 → shorts ds := by
 refine ind (fun ds h => ?_) (fun d h => ?_)
 ·induction ds with
  | nil => intro _; trivial
  | cons x r ih => intro hw; unfold wDs at hw; exact ⟨h x (by simp) (by omega), ih (fun y hy => h y (by simp [hy])) (by omega)⟩
 ·intro hw; rw [kV] at hw; exact (qZ d).2 ⟨by omega, h (by omega)⟩
theorem oE {d : PD} (h : wD d ≤ 1048576) : d.small := ⟨short_wD.1 d h, by have := pJ.1 d; omega⟩
def fit (d : PD) : Prop := d.wf
theorem wf_len {d : PD} (h : d.wf) : d.text.length ≤ 9223372036854775807 ∧ d.items.length ≤ 9223372036854775807 ∧ ∀ x ∈ d.items, x.wf := by
 have := (wf_eq d).1 h
 exact ⟨this.2.2.1, this.2.2.2.1, fun x hx => wfs_mem this.2.2.2.2 hx⟩
def rfOK (d : PD) : Prop := 2 * d.cnt + 1 < RF
theorem rfOK_small {d : PD} (h : d.small) : rfOK d := by unfold rfOK; rw [RF_eq]; have := h.2; omega
theorem w_eq_eq : ∀ n : Nat, (∀ d : PD, 2 * d.cnt + 1 < n → d.small → q9 n d d = some true) ∧ (∀ ds : List PD, 2 * cnts ds < n → cnts ds ≤ 1048576 → (∀ x ∈ ds, x.small) → y7 n ds ds = some true)
 | 0 => ⟨fun d h => by omega, fun ds h => by omega⟩
 | n + 1 => by
  have ih := w_eq_eq n
  refine ⟨fun d h hs => ?_, fun ds h hl hw => ?_⟩
  ·show cY (q9 n) (y7 n) d d = _
   unfold cY
   have hc := cnt_eq d
   rw [if_pos rfl, if_pos rfl, if_pos rfl, ih.2 d.items (by omega) (by have := hs.2; omega) (fun x hx => vZ hs hx), f6, if_pos rfl]
  ·show aL (q9 n) (y7 n) ds ds = _
   unfold aL
   exact wU (L := gU (q9 n) ds ds) (E := q9 n) ds (by have := cnts_len ds; omega) (fun x hx => ih.1 x (by have := cnts_mem hx; omega) (hw x hx)) (fun go i => rfl)
theorem eqDatum_eq {d : PD} (h : d.small) : q9 RF d d = some true := (w_eq_eq RF).1 d (rfOK_small h) h
theorem PD.wf_of {x : Int × Int × LB × List PD} (h : (IntKind.i64.min ≤ x.1 ∧ x.1 ≤ IntKind.i64.max) ∧ (IntKind.i64.min ≤ x.2.1 ∧ x.2.1 ≤ IntKind.i64.max) ∧ x.2.2.1.length ≤ 9223372036854775807 ∧ x.2.2.2.length ≤ 9223372036854775807 ∧ ∀ y ∈ x.2.2.2, y.wf) : (PD.mk x.1 x.2.1 x.2.2.1 x.2.2.2).wf :=
 ⟨h.1, h.2.1, h.2.2.1, h.2.2.2.1, wfs_of h.2.2.2.2⟩
def wI (x : PInstr) : Nat := wD x.d
def wC (c : PCode) : Nat := wts wI c.instrs
def wM (m : PImage) : Nat := wts wC m.codes
def PInstr.ok (x : PInstr) : Prop := (IntKind.i64.min ≤ x.op ∧ x.op ≤ IntKind.i64.max) ∧ (IntKind.i64.min ≤ x.a ∧ x.a ≤ IntKind.i64.max) ∧ x.d.wf
def PCode.ok (c : PCode) : Prop := (IntKind.i64.min ≤ c.params ∧ c.params ≤ IntKind.i64.max) ∧ (IntKind.i64.min ≤ c.slots ∧ c.slots ≤ IntKind.i64.max) ∧ (IntKind.i64.min ≤ c.captures ∧ c.captures ≤ IntKind.i64.max) ∧ c.instrs.length ≤ 9223372036854775807 ∧ ∀ x ∈ c.instrs, x.ok
def PImage.ok (m : PImage) : Prop := (m.codes.length ≤ 9223372036854775807 ∧ ∀ c ∈ m.codes, c.ok) ∧ (IntKind.i64.min ≤ m.main ∧ m.main ≤ IntKind.i64.max)
theorem small_wM {m : PImage} (h : wM m ≤ 1048576) : m.small := by
 have h' : m.codes.length + wsum wC m.codes ≤ 1048576 := h
 refine ⟨by omega, fun c hc => ?_⟩
 have h1 := X6 (wt := wC) hc
 have h2 : c.instrs.length + wsum wI c.instrs = wC c := rfl
 refine ⟨by omega, fun x hx => oE ?_⟩
 have h3 := X6 (wt := wI) hx
 have h4 : wI x = wD x.d := rfl
 omega
theorem eqInstr_eq (x : PInstr) (h : x.d.small) : fJ x x = some true := by unfold fJ; rw [eqDatum_eq h]; simp
theorem eqCode_eq (c : PCode) (h : c.small) : kR c c = some true := by
 unfold kR kS
 rw [wU (L := gV c.instrs c.instrs) (E := fJ) c.instrs h.1 (fun x hx => eqInstr_eq x (h.2 x hx)) (fun go i => rfl)]; simp
theorem eqImage_eq (m : PImage) (h : m.small) : cZ m m = some true := by
 unfold cZ oJ
 rw [wU (L := jS m.codes m.codes) (E := kR) m.codes h.1 (fun x hx => eqCode_eq x (h.2 x hx)) (fun go i => rfl)]; simp
end Go.Abs

namespace Go.Abs
open PD
theorem itr_ex {σ R : Type} {L : (σ → Option R) → σ → Option R} (Q : R → Prop) (P : σ → Prop) (μ : σ → Nat)
 (step : ∀ go v, P v → (∀ v', P v' → μ v' < μ v → ∃ r, go v' = some r ∧ Q r) → ∃ r, L go v = some r ∧ Q r) : ∀ n v, P v → μ v < n → ∃ r, itr L n v = some r ∧ Q r
 | 0, v, _, h => by omega
 | n + 1, v, hp, h => step (itr L n) v hp fun v' hp' hm => itr_ex Q P μ step n v' hp' (by omega)
theorem dK {σ R : Type} {L : (σ → Option R) → σ → Option R} (Q : R → Prop) (P : σ → Prop) (μ : σ → Nat)
 (step : ∀ go v, P v → (∀ v', P v' → μ v' < μ v → ∃ r, go v' = some r ∧ Q r) → ∃ r, L go v = some r ∧ Q r) (v : σ) (hp : P v) (h : μ v < 18446744073709551616) : ∃ r, itr L LF v = some r ∧ Q r := by
 rw [LF_eq]; exact itr_ex Q P μ step _ v hp h
theorem bI (k : Int) (h : k ≤ 4611686018427387904) : ∃ t, F5 k = some t := by
 unfold F5
 by_cases h0 : k ≤ 0
 ·rw [if_pos h0]; exact ⟨_, rfl⟩
 ·rw [if_neg h0]
  have := dK (L := gW) (fun _ => True) (fun v => 0 ≤ v.1 ∧ v.1 + v.2.length ≤ 4611686018427387904) (fun v => v.1.toNat) (fun go v hv hgo => ?_) (k, []) ⟨by omega, by simpa using h⟩ (by omega)
  ·obtain ⟨t, h1, _⟩ := this; exact ⟨t, h1⟩
  ·obtain ⟨k, out⟩ := v
   show ∃ r, S9 go k out = some r ∧ True
   unfold S9
   have h1 : 0 ≤ k := hv.1
   have h2 : k + (out.length : Int) ≤ 4611686018427387904 := hv.2
   by_cases hk : k > 0
   ·rw [if_pos hk, i6 (by omega), i6 (by omega), i6 (by omega), i6 (by simp; omega), i6 (by omega)]
    exact hgo _ ⟨by show 0 ≤ k / 10; omega, by simp; omega⟩ (by show (k / 10).toNat < k.toNat; omega)
   ·rw [if_neg hk, i6 (by simp; omega)]
    exact ⟨_, rfl, trivial⟩
theorem G6 {α : Type} {l : List α} {i : Nat} {v : α} (h : i < l.length) : nth (l.set i v) (i : Int) = some v := by
 rw [m7 (by simpa using h)]; simp
theorem gX {α : Type} (wt : α → Nat) (x : α) (r : List α) : wts wt (x :: r) = 1 + wt x + wts wt r := by
 unfold wts; simp only [List.length_cons, List.map_cons, List.sum_cons]; omega
theorem sP {α : Type} (wt : α → Nat) (xs : List α) {L : (Int × Int × List α → Option (Int × List α)) → Int × Int × List α → Option (Int × List α)} (k0 B : Int) (hn : xs.length ≤ 1048576) (hB : k0 + 6 * (wts wt xs : Nat) ≤ B)
 (step : ∀ go (i : Nat) (hi : i < xs.length) k a, a.length = xs.length → a[i]? = some xs[i] → k0 ≤ k → k + 6 * ((1 + wt xs[i] : Nat) : Int) ≤ B → ∃ k2 y, L go (k, (i : Int), a) = go (k2, (i : Int) + 1, a.set i y) ∧ k ≤ k2 ∧ k2 ≤ k + 6 * ((1 + wt xs[i] : Nat) : Int))
 (fin : ∀ go k a, a.length = xs.length → L go (k, (xs.length : Int), a) = some (k, a)) :
 ∃ k' a', itr L LF (k0, 0, xs) = some (k', a') ∧ a'.length = xs.length ∧ k0 ≤ k' ∧ k' ≤ B := by
 have := dK (L := L) (fun r => r.2.length = xs.length ∧ k0 ≤ r.1 ∧ r.1 ≤ B) (fun v => (0 ≤ v.2.1 ∧ v.2.1 ≤ xs.length) ∧ v.2.2.length = xs.length ∧ v.2.2.drop v.2.1.toNat = xs.drop v.2.1.toNat ∧ k0 ≤ v.1 ∧ v.1 + 6 * ((wts wt (xs.drop v.2.1.toNat) : Nat) : Int) ≤ B) (fun v => xs.length - v.2.1.toNat) (fun go v hv hgo => ?_) (k0, 0, xs) ⟨⟨Int.le_refl _, by show (0 : Int) ≤ _; omega⟩, rfl, rfl, Int.le_refl _, by simpa using hB⟩ (by show xs.length - 0 < _; omega)
 ·obtain ⟨r, h1, h2, h3, h4⟩ := this
  exact ⟨r.1, r.2, h1, h2, h3, h4⟩
 ·obtain ⟨k, j, a⟩ := v
  obtain ⟨⟨h1, h2⟩, h3, h4, h5, h6⟩ := hv
  simp only at h1 h2 h3 h4 h5 h6
  obtain ⟨i, rfl⟩ := Int.eq_ofNat_of_zero_le h1
  simp only [Int.ofNat_eq_natCast, Int.toNat_natCast] at *
  by_cases hi : i < xs.length
  ·have hai : a[i]? = some xs[i] := by
    have := congrArg (fun l => l[0]?) h4
    simpa [List.getElem?_drop, List.getElem?_eq_getElem hi] using this
   have hw : wts wt (xs.drop i) = 1 + wt xs[i] + wts wt (xs.drop (i + 1)) := by
    rw [List.drop_eq_getElem_cons hi, gX]
   obtain ⟨k2, y, e, g1, g2⟩ := step go i hi k a h3 hai h5 (by rw [hw] at h6; omega)
   rw [e]
   refine hgo (k2, (i : Int) + 1, a.set i y) ⟨⟨by show (0 : Int) ≤ (i : Int) + 1; omega, by show (i : Int) + 1 ≤ _; omega⟩, by simpa using h3, ?_, by show k0 ≤ k2; omega, ?_⟩ ?_
   ·have e2 : ((i : Int) + 1).toNat = i + 1 := by omega
    show (a.set i y).drop ((i : Int) + 1).toNat = xs.drop ((i : Int) + 1).toNat
    rw [e2, List.drop_set_of_lt (by omega)]
    have := congrArg (List.drop 1) h4
    simpa [List.drop_drop, Nat.add_comm] using this
   ·have e2 : ((i : Int) + 1).toNat = i + 1 := by omega
    show k2 + 6 * ((wts wt (xs.drop ((i : Int) + 1).toNat) : Nat) : Int) ≤ B
    rw [e2]
    rw [hw] at h6
    omega
   ·show xs.length - ((i : Int) + 1).toNat < xs.length - (i : Int).toNat
    omega
  ·have : i = xs.length := by omega
   subst this
   rw [fin go k a h3]
   refine ⟨_, rfl, h3, h5, ?_⟩
   rw [List.drop_length] at h6
   have h0 : wts wt ([] : List α) = 0 := rfl
   rw [h0] at h6
   show k ≤ B
   omega
theorem dM (k n : Int) (t : LB) (is : List PD) : (PD.mk k n t is).items = is := rfl
theorem iV (k n : Int) (t : LB) (is : List PD) : (PD.mk k n t is).kind = k := rfl
theorem aB (k n : Int) (t : LB) (is : List PD) : (PD.mk k n t is).number = n := rfl
theorem iW (k n : Int) (t : LB) (is : List PD) : (PD.mk k n t is).text = t := rfl
theorem iT : ∀ (n : Nat) (ds : List PD) (k : Int), cnts ds < n → wDs ds ≤ 1048576 → 0 ≤ k → k + 6 * ((wDs ds : Nat) : Int) ≤ 1000000000000 → ∃ k' ds', n8 n ds k = some (k', ds') ∧ ds'.length = ds.length ∧ k ≤ k' ∧ k' ≤ k + 6 * ((wDs ds : Nat) : Int)
 | 0, ds, k, h, _, _, _ => by omega
 | n + 1, ds, k, h, hc, h0, h1 => by
  show ∃ k' ds', J4 (n8 n) ds k = some (k', ds') ∧ _
  unfold J4
  have hl := cnts_len ds
  have hw := pJ.2 ds
  rw [wDs_eq] at h1 ⊢
  refine sP wD ds (L := X2 (n8 n)) k (k + 6 * ((wts wD ds : Nat) : Int)) (by omega) (Int.le_refl _) (fun go i hi k1 a ha hai hk hB => ?_) (fun go k1 a ha => ?_)
  ·show ∃ k2 y, t8 (n8 n) go k1 (i : Int) a = _ ∧ _
   unfold t8
   have hia : i < a.length := by omega
   have hm := jR (List.getElem_mem hi)
   have hmem := cnts_mem (List.getElem_mem hi)
   have hx : a[i] = ds[i] := by
    rw [List.getElem?_eq_getElem hia] at hai; exact Option.some.inj hai
   have hwi := kV ds[i]
   have hci := cnt_eq ds[i]
   obtain ⟨t, ht⟩ := bI (k1 + 1 + 1) (by omega)
   obtain ⟨k', ds', e1, e2, e3, e4⟩ := iT n ds[i].items (k1 + 1 + 1 + 1) (by omega) (by omega) (by omega) (by omega)
   simp only [Int.toNat_natCast, List.set_set]
   rw [if_pos (by omega), m7 hia, f6, i6 (by omega), G6 hia, f6, i6 (by omega), ht, f6, G6 hia, f6, i6 (by omega), G6 hia, f6, hx]
   try simp only [dM, iV, aB, iW]
   rw [e1, f6]
   exact ⟨k', _, (i6 e2).trans (i6 (by omega)), by omega, by omega⟩
  ·show t8 (n8 n) go k1 (ds.length : Int) a = _
   unfold t8
   rw [if_neg (by omega)]
theorem sO (xs : List PInstr) (k : Int) (hw : wts wI xs ≤ 1048576) (h0 : 0 ≤ k) (h1 : k + 6 * ((wts wI xs : Nat) : Int) ≤ 1000000000000) : ∃ k' xs', Q4 xs k = some (k', xs') ∧ xs'.length = xs.length ∧ k ≤ k' ∧ k' ≤ k + 6 * ((wts wI xs : Nat) : Int) := by
 unfold Q4
 have hlen : xs.length ≤ wts wI xs := by unfold wts; omega
 refine sP wI xs (L := X3 xs) k (k + 6 * ((wts wI xs : Nat) : Int)) (by omega) (Int.le_refl _) (fun go i hi k1 a ha hai hk hB => ?_) (fun go k1 a ha => ?_)
 ·show ∃ k2 y, u3 xs go k1 (i : Int) a = _ ∧ _
  unfold u3
  have hia : i < a.length := by omega
  have hx : a[i] = xs[i] := by
   rw [List.getElem?_eq_getElem hia] at hai; exact Option.some.inj hai
  have hwm := X6 (wt := wI) (List.getElem_mem hi)
  have hws : wts wI xs = xs.length + wsum wI xs := rfl
  have hwi : wI xs[i] = wD xs[i].d := rfl
  have hwd := kV xs[i].d
  have hcc := pJ.2 xs[i].d.items
  obtain ⟨t, ht⟩ := bI (k1 + 1 + 1 + 1 + 1) (by omega)
  obtain ⟨k', ds', e1, e2, e3, e4⟩ := iT RF xs[i].d.items (k1 + 1 + 1 + 1 + 1 + 1) (by rw [RF_eq]; omega) (by omega) (by omega) (by omega)
  simp only [Int.toNat_natCast, List.set_set]
  rw [if_pos (by omega), m7 hia, f6, i6 (by omega), G6 hia, f6, i6 (by omega), G6 hia, f6, i6 (by omega), G6 hia, f6, i6 (by omega), ht, f6, G6 hia, f6, i6 (by omega), G6 hia, f6, hx]
  try simp only [dM, iV, aB, iW]
  rw [e1, f6]
  exact ⟨k', _, (i6 e2).trans (i6 (by omega)), by omega, by omega⟩
 ·show u3 xs go k1 (xs.length : Int) a = _
  unfold u3
  rw [if_neg (by omega)]
theorem uO (xs : List PCode) (k : Int) (hw : wts wC xs ≤ 1048576) (h0 : 0 ≤ k) (h1 : k + 6 * ((wts wC xs : Nat) : Int) ≤ 1000000000000) : ∃ k' xs', U4 xs k = some (k', xs') ∧ xs'.length = xs.length ∧ k ≤ k' ∧ k' ≤ k + 6 * ((wts wC xs : Nat) : Int) := by
 unfold U4
 have hlen : xs.length ≤ wts wC xs := by unfold wts; omega
 refine sP wC xs (L := Z4) k (k + 6 * ((wts wC xs : Nat) : Int)) (by omega) (Int.le_refl _) (fun go i hi k1 a ha hai hk hB => ?_) (fun go k1 a ha => ?_)
 ·show ∃ k2 y, w6 go k1 (i : Int) a = _ ∧ _
  unfold w6
  have hia : i < a.length := by omega
  have hx : a[i] = xs[i] := by
   rw [List.getElem?_eq_getElem hia] at hai; exact Option.some.inj hai
  have hwm := X6 (wt := wC) (List.getElem_mem hi)
  have hws : wts wC xs = xs.length + wsum wC xs := rfl
  have hwi : wC xs[i] = wts wI xs[i].instrs := rfl
  obtain ⟨k', ds', e1, e2, e3, e4⟩ := sO xs[i].instrs (k1 + 1 + 1 + 1) (by omega) (by omega) (by omega)
  simp only [Int.toNat_natCast, List.set_set]
  rw [if_pos (by omega), m7 hia, f6, i6 (by omega), G6 hia, f6, i6 (by omega), G6 hia, f6, i6 (by omega), G6 hia, f6, hx]
  try simp only [dM, iV, aB, iW]
  rw [e1, f6]
  exact ⟨k', _, (i6 e2).trans (i6 (by omega)), by omega, by omega⟩
 ·show w6 go k1 (xs.length : Int) a = _
  unfold w6
  rw [if_neg (by omega)]
theorem markImage_some (m : PImage) (k : Int) (hw : wM m ≤ 1048576) (h0 : 0 ≤ k) (h1 : k ≤ 4000000) : ∃ k' xs', U5 m k = some (k', xs') ∧ xs'.length = m.codes.length ∧ k ≤ k' := by
 have hwm : wM m = wts wC m.codes := rfl
 obtain ⟨k', xs', e1, e2, e3, e4⟩ := uO m.codes k (by omega) h0 (by omega)
 unfold U5
 rw [e1, f6, i6 e2]
 exact ⟨k', xs', rfl, e2, e3⟩
def nums (k : Int) : Nat → LI
 | 0 => []
 | n + 1 => k :: nums (k + 1) n
theorem nums_len : ∀ (n : Nat) (k : Int), (nums k n).length = n
 | 0, _ => rfl
 | n + 1, k => by simp [nums, nums_len n]
theorem nums_get : ∀ (n : Nat) (k : Int) (i : Nat), i < n → (nums k n)[i]? = some (k + i)
 | 0, _, _, h => by omega
 | n + 1, k, 0, _ => by simp [nums]
 | n + 1, k, i + 1, h => by
  have := nums_get n (k + 1) i (by omega)
  simp only [nums, List.getElem?_cons_succ, this]
  congr 1; omega
end Go.Abs

namespace Go.Abs
open Go.Lib (decDigits itoa nDigits)
theorem nDig_le : ∀ (k u : Nat), u < 10 ^ (k + 1) → nDigits u ≤ k + 1
 | 0, u, h => by rw [Go.Lib.nDigits_small (by simpa using h)]; omega
 | k + 1, u, h => by
  by_cases hu : u < 10
  ·rw [Go.Lib.nDigits_small hu]; omega
  ·rw [Go.Lib.nDigits_big hu]
   have := nDig_le k (u / 10) (by rw [Nat.pow_succ] at h; omega)
   omega
theorem rP (u : Nat) (h : u ≤ 999999999) : (decDigits u).length ≤ 9 := by
 rw [Go.Lib.decDigits_eq, List.length_map, List.length_range]
 exact nDig_le 8 u (by show u < 10 ^ 9; omega)
theorem iC {u : Nat} (h : u < 10) : decDigits u = [UInt8.ofNat (48 + u)] := by rw [decDigits, dif_pos h]
theorem wR {u : Nat} (h : ¬ u < 10) : decDigits u = decDigits (u / 10) ++ [UInt8.ofNat (48 + u % 10)] := by rw [decDigits, dif_neg h]
theorem K5 (n : Int) (h : -999999999 ≤ n ∧ n ≤ 999999999) : w8 n = some (itoa n) := by
 unfold w8
 by_cases h0 : n = 0
 ·rw [if_pos h0, h0]
  unfold itoa
  rw [if_neg (by omega), show (0 : Int).toNat = 0 from rfl, iC (by omega)]
  rfl
 rw [if_neg h0]
 have hT := rP n.natAbs (by omega)
 have key := dK (L := Y3 n) (fun r => r = itoa n) (fun v => ((v.2 = 0 ∧ v.1 = decDigits n.natAbs) ∨ (v.2 ≠ 0 ∧ decDigits v.2.natAbs ++ v.1 = decDigits n.natAbs)) ∧ ((0 ≤ n ∧ 0 ≤ v.2 ∧ v.2 ≤ n) ∨ (n < 0 ∧ v.2 ≤ 0 ∧ n ≤ v.2))) (fun v => v.2.natAbs) (fun go v hv hgo => ?_) ([], n) ⟨.inr ⟨h0, by simp⟩, by show (0 ≤ n ∧ 0 ≤ n ∧ n ≤ n) ∨ (n < 0 ∧ n ≤ 0 ∧ n ≤ n); omega⟩ (by show n.natAbs < _; omega)
 ·obtain ⟨r, h1, h2⟩ := key; rw [h1, h2]
 ·obtain ⟨out, x⟩ := v
  obtain ⟨h1, h2⟩ := hv
  simp only at h1 h2
  show ∃ r, I0 n go out x = some r ∧ _
  unfold I0
  by_cases hx : x = 0
  ·have ho : out = decDigits n.natAbs := by
    rcases h1 with h1 | h1
    ·exact h1.2
    ·exact absurd hx h1.1
   rw [if_pos hx]
   by_cases hn : n < 0
   ·rw [if_pos hn, i6 (by rw [ho]; simp; omega)]
    refine ⟨_, rfl, ?_⟩
    unfold itoa
    rw [if_pos hn, ho]; rfl
   ·rw [if_neg hn]
    refine ⟨_, rfl, ?_⟩
    unfold itoa
    rw [if_neg hn, ho, show n.natAbs = n.toNat by omega]
  ·have ho : decDigits x.natAbs ++ out = decDigits n.natAbs := by
    rcases h1 with h1 | h1
    ·exact absurd h1.1 hx
    ·exact h1.2
   have hol : out.length ≤ 9 := by
    have := congrArg List.length ho
    rw [List.length_append] at this; omega
   have hx2 : -999999999 ≤ x ∧ x ≤ 999999999 := by omega
   obtain ⟨dg, q, e1, e2, e3, e4⟩ : ∃ dg q : Int, (Int.tmod x 10 = dg ∨ Int.tmod x 10 = -dg) ∧ dg = ((x.natAbs % 10 : Nat) : Int) ∧ Int.tdiv x 10 = q ∧ (q.natAbs = x.natAbs / 10 ∧ ((0 ≤ n ∧ 0 ≤ q ∧ q ≤ n ∧ Int.tmod x 10 = dg) ∨ (n < 0 ∧ q ≤ 0 ∧ n ≤ q ∧ Int.tmod x 10 = -dg))) := by
    rcases h2 with ⟨a1, a2, a3⟩ | ⟨a1, a2, a3⟩
    ·refine ⟨x % 10, x / 10, .inl (Int.tmod_eq_emod_of_nonneg a2), by omega, Int.tdiv_eq_ediv_of_nonneg a2, by omega, .inl ⟨a1, by omega, by omega, Int.tmod_eq_emod_of_nonneg a2⟩⟩
    ·have t1 : Int.tmod x 10 = -((-x) % 10) := by rw [← Int.tmod_eq_emod_of_nonneg (by omega : 0 ≤ -x), Int.neg_tmod, Int.neg_neg]
     have t2 : Int.tdiv x 10 = -((-x) / 10) := by rw [← Int.tdiv_eq_ediv_of_nonneg (by omega : 0 ≤ -x), Int.neg_tdiv, Int.neg_neg]
     exact ⟨(-x) % 10, -((-x) / 10), .inr t1, by omega, t2, by omega, .inr ⟨a1, by omega, by omega, t1⟩⟩
   have hd : 0 ≤ dg ∧ dg ≤ 9 := by omega
   have hJ : ∃ r, B7 out x go dg = some r ∧ r = itoa n := by
    unfold B7
    rw [i6 (show -9223372036854775808 ≤ 48 + dg ∧ 48 + dg ≤ 9223372036854775807 by omega), i6 (by omega), i6 (by simp; omega), i6 (show (-9223372036854775808 ≤ x ∧ x ≤ 9223372036854775807) ∧ (0 : Int) < 10 by omega), e3]
    refine hgo (_, q) ⟨?_, by show (0 ≤ n ∧ 0 ≤ q ∧ q ≤ n) ∨ (n < 0 ∧ q ≤ 0 ∧ n ≤ q); omega⟩ (by show q.natAbs < x.natAbs; omega)
    show (q = 0 ∧ _) ∨ (q ≠ 0 ∧ _)
    have hdn : (48 + dg).toNat = 48 + x.natAbs % 10 := by omega
    rw [hdn]
    by_cases hs : x.natAbs < 10
    ·refine .inl ⟨by omega, ?_⟩
     rw [← ho, iC hs, Nat.mod_eq_of_lt hs]
    ·refine .inr ⟨by omega, ?_⟩
     rw [← ho, wR hs, e4.1, List.append_assoc]
   rw [if_neg hx, i6 (show (-9223372036854775808 ≤ x ∧ x ≤ 9223372036854775807) ∧ (0 : Int) < 10 by omega)]
   by_cases hneg : Int.tmod x 10 < 0
   ·have e : -(Int.tmod x 10) = dg := by omega
    rw [if_pos hneg, e, i6 (show -9223372036854775808 ≤ dg ∧ dg ≤ 9223372036854775807 by omega)]
    exact hJ
   ·have e : Int.tmod x 10 = dg := by omega
    rw [if_neg hneg, e]
    exact hJ
theorem R2 (n : Int) (h : -999999999 ≤ n ∧ n ≤ 999999999) : w7 n = some (itoa n) := by
 unfold w7 x_Itoa
 rw [i6 (show -9223372036854775808 ≤ n ∧ n ≤ 9223372036854775807 by omega)]; rfl
theorem kD (n : Int) (h : -999999999 ≤ n ∧ n ≤ 999999999) : (itoa n).length ≤ 10 := by
 unfold itoa
 split
 ·have := rP n.natAbs (by omega); simp; omega
 ·have := rP n.toNat (by omega); omega
end Go.Abs

namespace Go.Abs
open PD
open Go.Lib (itoa)
mutual
def fmtD : PD → LB
 | .mk k n t is => if k = 1 then t else if k = 2 then itoa n else if k = 3 then (if n = 1 then [35, 116] else [35, 102]) else if k = 4 then [34] ++ t ++ [34] else [40] ++ fmtDs true is ++ [41]
def fmtDs : Bool → List PD → LB
 | _, [] => []
 | first, d :: r => (if first then [] else [32]) ++ fmtD d ++ fmtDs false r
end
theorem fmtD_eq (d : PD) : fmtD d = if d.kind = 1 then d.text else if d.kind = 2 then itoa d.number else if d.kind = 3 then (if d.number = 1 then [35, 116] else [35, 102]) else if d.kind = 4 then [34] ++ d.text ++ [34] else [40] ++ fmtDs true d.items ++ [41] := by cases d; rw [fmtD]; rfl
theorem nJ (d : PD) : d.okAll = (nodeOK d.kind d.number d.text d.items.length && okAlls d.items) := by cases d; rfl
theorem kG : ∀ {ds : List PD}, okAlls ds = true → ∀ x ∈ ds, x.okAll = true
 | d :: r, h, x, hx => by
  simp only [okAlls, Bool.and_eq_true] at h
  rcases List.mem_cons.1 hx with rfl | hx
  ·exact h.1
  ·exact kG h.2 x hx
theorem qV {k n m : Int} {t : LB} (h : nodeOK k n t m = true) : (k = 2 → -999999999 ≤ n ∧ n ≤ 999999999) ∧ (k = 3 → n = 0 ∨ n = 1) := by
 unfold nodeOK inside at h
 refine ⟨fun e => ?_, fun e => ?_⟩
 ·rw [if_neg (by omega), if_neg (by omega), if_pos e] at h
  simp at h; omega
 ·rw [if_neg (by omega), if_neg (by omega), if_neg (by omega), if_pos e] at h
  simp at h; omega
theorem wW : (∀ d : PD, d.okAll = true → (fmtD d).length ≤ 16 + 17 * wD d) ∧ ∀ ds : List PD, okAlls ds = true → ∀ b, (fmtDs b ds).length ≤ 17 * wDs ds := by
 refine ind (fun ds h => ?_) (fun d h => ?_)
 ·intro ho
  induction ds with
  | nil => intro b; simp [fmtDs]
  | cons x r ih =>
   intro b
   simp only [okAlls, Bool.and_eq_true] at ho
   have h1 := h x (by simp) ho.1
   have h2 := ih (fun y hy => h y (by simp [hy])) ho.2 false
   unfold fmtDs wDs
   have : (if b = true then ([] : LB) else [32]).length ≤ 1 := by cases b <;> simp
   simp only [List.length_append]
   omega
 ·intro ho
  rw [nJ, Bool.and_eq_true] at ho
  rw [fmtD_eq, kV]
  split
  ·omega
  split
  ·rename_i e; have := kD _ ((qV ho.1).1 e); omega
  split
  ·split <;> simp <;> omega
  split
  ·simp; omega
  ·have := h ho.2 true
   simp only [List.length_append, List.length_singleton]; omega
theorem yG : ∀ (a b : List PD), wDs (a ++ b) = wDs a + wDs b
 | [], b => by simp [wDs]
 | d :: r, b => by rw [List.cons_append, wDs, wDs, yG r b]; omega
theorem wDs_take {ds : List PD} {j : Nat} (h : j < ds.length) : wDs (ds.take (j + 1)) = wDs (ds.take j) + (1 + wD ds[j]) ∧ wDs (ds.take (j + 1)) ≤ wDs ds := by
 refine ⟨?_, ?_⟩
 ·rw [← List.take_append_getElem h, yG]; simp [wDs]
 ·have := yG (ds.take (j + 1)) (ds.drop (j + 1))
  rw [List.take_append_drop] at this; omega
theorem iR : ∀ (n : Nat) (d : PD) (out : LB), d.cnt < n → d.okAll = true → d.small → out.length + 17 * wD d ≤ 1000000000 → n6 n out d = some (out ++ fmtD d)
 | 0, d, _, h, _, _, _ => by omega
 | n + 1, d, out, h, ho, hs, hl => by
  show R8 (n6 n) out d = _
  have ho' := ho
  rw [nJ, Bool.and_eq_true] at ho'
  have hw := kV d
  unfold R8
  rw [fmtD_eq]
  by_cases k1 : d.kind = 1
  ·rw [if_pos k1, if_pos k1, i6 (by omega)]
  rw [if_neg k1, if_neg k1]
  by_cases k2 : d.kind = 2
  ·have h2 := (qV ho'.1).1 k2
   have := kD _ h2
   rw [if_pos k2, if_pos k2, R2 _ h2, f6, i6 (by omega)]
  rw [if_neg k2, if_neg k2]
  by_cases k3 : d.kind = 3
  ·rw [if_pos k3, if_pos k3]
   split
   ·rw [i6 (by simp; omega)]
   ·rw [i6 (by simp; omega)]
  rw [if_neg k3, if_neg k3]
  by_cases k4 : d.kind = 4
  ·rw [if_pos k4, if_pos k4, i6 (by simp; omega), i6 (by simp; omega), i6 (by simp; omega)]; simp
  rw [if_neg k4, if_neg k4, i6 (by simp; omega)]
  have hsl := X1 hs
  have hfl := wW.2 d.items ho'.2
  have key := dK (L := cI (n6 n) d) (fun r => r = out ++ ([40] ++ fmtDs true d.items ++ [41])) (fun v => 0 ≤ v.1 ∧ v.1 ≤ d.items.length ∧ v.2 ++ fmtDs (decide (v.1 = 0)) (d.items.drop v.1.toNat) = out ++ ([40] ++ fmtDs true d.items) ∧ v.2.length ≤ out.length + 1 + 17 * wDs (d.items.take v.1.toNat)) (fun v => d.items.length - v.1.toNat) (fun go v hv hgo => ?_) (0, out ++ [40]) ⟨by show (0 : Int) ≤ 0; omega, by show (0 : Int) ≤ _; omega, by simp, by simp⟩ (by show d.items.length - 0 < _; omega)
  ·obtain ⟨r, e1, e2⟩ := key; rw [e1, e2]
  ·obtain ⟨i, o⟩ := v
   obtain ⟨h1, h2, h3, h4⟩ := hv
   simp only at h1 h2 h3 h4
   obtain ⟨j, rfl⟩ := Int.eq_ofNat_of_zero_le h1
   simp only [Int.ofNat_eq_natCast, Int.toNat_natCast] at *
   show ∃ r, O0 (n6 n) d go (j : Int) o = some r ∧ _
   unfold O0
   by_cases hj : j < d.items.length
   ·rw [if_pos (by omega), m7 hj, f6]
    have hd := List.drop_eq_getElem_cons hj
    rw [hd, fmtDs] at h3
    obtain ⟨wt1, wt2⟩ := wDs_take hj
    have hxl := wW.1 _ (kG ho'.2 _ (List.getElem_mem hj))
    have hwm := jR (List.getElem_mem hj)
    have hxo := kG ho'.2 _ (List.getElem_mem hj)
    have hxs := (A6 hs hj).1
    have hxc : d.items[j].cnt < n := by have := (A6 hs hj).2; omega
    have fin : ∀ o2 : LB, o2 = o ++ (if decide ((j : Int) = 0) = true then [] else [32]) → ∃ r, F8 (n6 n) (j : Int) go d.items[j] o2 = some r ∧ r = out ++ ([40] ++ fmtDs true d.items ++ [41]) := by
     intro o2 e
     have ho2 : o2.length ≤ o.length + 1 := by rw [e]; simp only [List.length_append]; split <;> simp
     unfold F8
     rw [iR n _ o2 hxc hxo hxs (by omega), f6, i6 (show -9223372036854775808 ≤ (j : Int) + 1 ∧ (j : Int) + 1 ≤ 9223372036854775807 by omega)]
     have e1 : ((j : Int) + 1).toNat = j + 1 := by omega
     refine hgo _ ⟨by show (0 : Int) ≤ (j : Int) + 1; omega, by show (j : Int) + 1 ≤ _; omega, ?_, by show (o2 ++ fmtD d.items[j]).length ≤ _ + 17 * wDs (d.items.take ((j : Int) + 1).toNat); rw [e1, List.length_append]; omega⟩ (by show d.items.length - ((j : Int) + 1).toNat < d.items.length - (j : Int).toNat; omega)
     have e2 : decide ((j : Int) + 1 = 0) = false := by simp; omega
     show (o2 ++ fmtD d.items[j]) ++ fmtDs (decide ((j : Int) + 1 = 0)) (d.items.drop ((j : Int) + 1).toNat) = _
     rw [e1, e2, e, ← h3]; simp only [List.append_assoc]
    by_cases hj0 : (j : Int) > 0
    ·rw [if_pos hj0, i6 (by simp; omega)]
     exact fin _ (by rw [if_neg (by simp; omega)])
    ·rw [if_neg hj0]
     exact fin _ (by rw [if_pos (by simp; omega)]; simp)
   ·have ht : d.items.take j = d.items := List.take_of_length_le (by omega)
    rw [ht] at h4
    rw [if_neg (by omega), i6 (by simp; omega)]
    refine ⟨_, rfl, ?_⟩
    rw [List.drop_eq_nil_of_le (by omega)] at h3
    have e : fmtDs (decide ((j : Int) = 0)) [] = [] := by unfold fmtDs; rfl
    rw [e, List.append_nil] at h3
    rw [h3]; simp
theorem qB (d : PD) (hv : d.valid = true) (hw : wD d ≤ 1048576) : W0 d = some (fmtD d) := by
 have hs := oE hw
 unfold W0
 have ho : d.okAll = true := by
  unfold valid at hv; simp only [Bool.and_eq_true] at hv; exact hv.2.2
 rw [pM d hs, f6, if_pos hv, iR RF d [] (RF_cnt hs) ho hs (by simp; omega), f6]; rfl
def joinT : Bool → List (LB) → LB
 | _, [] => []
 | first, t :: r => (if first then [] else [32]) ++ t ++ joinT false r
theorem s_l1Join_eq (ts : List (LB)) (hn : ts.length ≤ 1048576) (hl : (joinT true ts).length ≤ 1000000000) : nV ts [32] = some (joinT true ts) := by
 unfold nV
 have key := dK (L := lX ts [32]) (fun r => r = joinT true ts) (fun v => 0 ≤ v.2 ∧ v.2 ≤ ts.length ∧ v.1 ++ joinT (decide (v.2 = 0)) (ts.drop v.2.toNat) = joinT true ts) (fun v => ts.length - v.2.toNat) (fun go v hv hgo => ?_) ([], 0) ⟨by show (0 : Int) ≤ 0; omega, by show (0 : Int) ≤ _; omega, by simp⟩ (by show ts.length - 0 < _; omega)
 ·obtain ⟨r, e1, e2⟩ := key; rw [e1, e2]
 ·obtain ⟨o, i⟩ := v
  obtain ⟨h1, h2, h3⟩ := hv
  simp only at h1 h2 h3
  obtain ⟨j, rfl⟩ := Int.eq_ofNat_of_zero_le h1
  simp only [Int.ofNat_eq_natCast, Int.toNat_natCast] at *
  show ∃ r, aK ts [32] go o (j : Int) = some r ∧ _
  unfold aK
  have hol := congrArg List.length h3
  by_cases hj : j < ts.length
  ·rw [if_pos (by omega), m7 hj, f6]
   rw [List.drop_eq_getElem_cons hj, joinT] at h3 hol
   simp only [List.length_append] at hol
   have fin : ∀ o2 : LB, o2 = o ++ (if decide ((j : Int) = 0) = true then [] else [32]) → ∃ r, U3 (j : Int) go ts[j] o2 = some r ∧ r = joinT true ts := by
    intro o2 e
    have ho2 : o2.length ≤ o.length + 1 := by rw [e]; simp only [List.length_append]; split <;> simp
    unfold U3
    rw [i6 (by omega), i6 (show -9223372036854775808 ≤ (j : Int) + 1 ∧ (j : Int) + 1 ≤ 9223372036854775807 by omega)]
    refine hgo _ ⟨by show (0 : Int) ≤ (j : Int) + 1; omega, by show (j : Int) + 1 ≤ _; omega, ?_⟩ (by show ts.length - ((j : Int) + 1).toNat < ts.length - (j : Int).toNat; omega)
    have e1 : ((j : Int) + 1).toNat = j + 1 := by omega
    have e2 : decide ((j : Int) + 1 = 0) = false := by simp; omega
    show (o2 ++ ts[j]) ++ joinT (decide ((j : Int) + 1 = 0)) (ts.drop ((j : Int) + 1).toNat) = _
    rw [e1, e2, e, ← h3]; simp only [List.append_assoc]
   by_cases hj0 : (j : Int) > 0
   ·rw [if_pos hj0, i6 (by simp; omega)]
    exact fin _ (by rw [if_neg (by simp; omega)])
   ·rw [if_neg hj0]
    exact fin _ (by rw [if_pos (by simp; omega)]; simp)
  ·rw [if_neg (by omega)]
   refine ⟨_, rfl, ?_⟩
   rw [List.drop_eq_nil_of_le (by omega)] at h3
   have e : joinT (decide ((j : Int) = 0)) [] = [] := rfl
   rw [e, List.append_nil] at h3
   exact h3
theorem xG : ∀ (b : Bool) (ds : List PD), joinT b (ds.map fmtD) = fmtDs b ds
 | _, [] => by unfold fmtDs; rfl
 | b, d :: r => by rw [List.map_cons, joinT, fmtDs, xG false r]
theorem nU : ∀ (n : Nat) (d : PD), d.cnt < n → d.okAll = true → d.small → wD d ≤ 1048576 → u5 n d = some (fmtD d)
 | 0, d, h, _, _, _ => by omega
 | n + 1, d, h, ho, hs, hl => by
  show aJ (u5 n) d = _
  have ho' := ho
  rw [nJ, Bool.and_eq_true] at ho'
  have hw := kV d
  unfold aJ
  rw [fmtD_eq]
  by_cases k1 : d.kind = 1
  ·rw [if_pos k1, if_pos k1]
  rw [if_neg k1, if_neg k1]
  by_cases k2 : d.kind = 2
  ·have h2 := (qV ho'.1).1 k2
   rw [if_pos k2, if_pos k2, K5 _ h2, f6]
  rw [if_neg k2, if_neg k2]
  by_cases k3 : d.kind = 3
  ·rw [if_pos k3, if_pos k3]
   rcases (qV ho'.1).2 k3 with e | e
   ·rw [if_neg (by omega), e]; rfl
   ·rw [if_pos e, e]; rfl
  rw [if_neg k3, if_neg k3]
  by_cases k4 : d.kind = 4
  ·rw [if_pos k4, if_pos k4, i6 (by simp; omega), i6 (by simp; omega)]
  rw [if_neg k4, if_neg k4]
  have hsl := X1 hs
  have hfl := wW.2 d.items ho'.2 true
  have key := dK (L := gL (u5 n) d) (fun r => r = [40] ++ fmtDs true d.items ++ [41]) (fun v => 0 ≤ v.1 ∧ v.1 ≤ d.items.length ∧ v.2 = (d.items.take v.1.toNat).map fmtD) (fun v => d.items.length - v.1.toNat) (fun go v hv hgo => ?_) (0, []) ⟨by show (0 : Int) ≤ 0; omega, by show (0 : Int) ≤ _; omega, by simp⟩ (by show d.items.length - 0 < _; omega)
  ·obtain ⟨r, e1, e2⟩ := key; rw [e1, e2]
  ·obtain ⟨i, ps⟩ := v
   obtain ⟨h1, h2, h3⟩ := hv
   simp only at h1 h2 h3
   obtain ⟨j, rfl⟩ := Int.eq_ofNat_of_zero_le h1
   simp only [Int.ofNat_eq_natCast, Int.toNat_natCast] at *
   show ∃ r, S7 (u5 n) d go (j : Int) ps = some r ∧ _
   unfold S7
   by_cases hj : j < d.items.length
   ·have hwm := jR (List.getElem_mem hj)
    rw [if_pos (by omega), m7 hj, f6, nU n _ (by have := (A6 hs hj).2; omega) (kG ho'.2 _ (List.getElem_mem hj)) (A6 hs hj).1 (by omega), f6, i6 (by rw [h3]; simp; omega), i6 (show -9223372036854775808 ≤ (j : Int) + 1 ∧ (j : Int) + 1 ≤ 9223372036854775807 by omega)]
    refine hgo _ ⟨by show (0 : Int) ≤ (j : Int) + 1; omega, by show (j : Int) + 1 ≤ _; omega, ?_⟩ (by show d.items.length - ((j : Int) + 1).toNat < d.items.length - (j : Int).toNat; omega)
    have e1 : ((j : Int) + 1).toNat = j + 1 := by omega
    show ps ++ [fmtD d.items[j]] = (d.items.take ((j : Int) + 1).toNat).map fmtD
    rw [e1, h3, ← List.take_append_getElem hj, List.map_append]; rfl
   ·have e : ps = d.items.map fmtD := by rw [h3, List.take_of_length_le (by omega)]
    rw [if_neg (by omega), s_l1Join_eq ps (by rw [e]; simp; omega) (by rw [e, xG]; omega), f6, e, xG, i6 (by simp; omega), i6 (by simp; omega)]
    exact ⟨_, rfl, rfl⟩
theorem opNames_len : ∀ i : Nat, i < 20 → ∃ t, nth E5 (i : Int) = some t ∧ t.length ≤ 20
 | 0, _ => ⟨_, rfl, by decide⟩ | 1, _ => ⟨_, rfl, by decide⟩ | 2, _ => ⟨_, rfl, by decide⟩ | 3, _ => ⟨_, rfl, by decide⟩ | 4, _ => ⟨_, rfl, by decide⟩
 | 5, _ => ⟨_, rfl, by decide⟩ | 6, _ => ⟨_, rfl, by decide⟩ | 7, _ => ⟨_, rfl, by decide⟩ | 8, _ => ⟨_, rfl, by decide⟩ | 9, _ => ⟨_, rfl, by decide⟩
 | 10, _ => ⟨_, rfl, by decide⟩ | 11, _ => ⟨_, rfl, by decide⟩ | 12, _ => ⟨_, rfl, by decide⟩ | 13, _ => ⟨_, rfl, by decide⟩ | 14, _ => ⟨_, rfl, by decide⟩
 | 15, _ => ⟨_, rfl, by decide⟩ | 16, _ => ⟨_, rfl, by decide⟩ | 17, _ => ⟨_, rfl, by decide⟩ | 18, _ => ⟨_, rfl, by decide⟩ | 19, _ => ⟨_, rfl, by decide⟩
 | n + 20, h => by omega
theorem OpName_eq (op : Int) (h : 1 ≤ op ∧ op ≤ 20) : ∃ t, W2 op = some t ∧ dP op = some t ∧ t.length ≤ 20 := by
 obtain ⟨i, hi⟩ : ∃ i : Nat, op - 1 = (i : Int) := ⟨(op - 1).toNat, by omega⟩
 obtain ⟨t, e1, e2⟩ := opNames_len i (by omega)
 have c : I64 (op - 1) := show -9223372036854775808 ≤ op - 1 ∧ op - 1 ≤ 9223372036854775807 by omega
 refine ⟨t, ?_, ?_, e2⟩
 ·unfold W2
  rw [if_neg (by omega), if_neg (by omega), i6 c, hi, e1, f6]
 ·unfold dP
  have hin : X0 op 1 20 = some true := by unfold X0; rw [if_pos (by omega)]; simp; omega
  rw [hin, f6, if_pos rfl, i6 c, hi]
  show bnd (nth E5 (i : Int)) _ = _
  rw [e1, f6]
theorem FormatInstr_eq (x : PInstr) (hw : wD x.d ≤ 1048576) : ∃ t, A8 x = some t ∧ C6 x = some t ∧ (instrOK x = true → t.length ≤ 20 + 1 + 17 * 1048576 + 16) := by
 have hs := oE hw
 unfold A8 C6
 rw [pP x hs, nP x hs, f6, f6]
 cases hok : instrOK x
 ·exact ⟨_, rfl, rfl, fun h => by cases h⟩
 rw [if_pos rfl, if_pos rfl]
 unfold instrOK inside at hok
 rw [Bool.and_eq_true] at hok
 have hop : 1 ≤ x.op ∧ x.op ≤ 20 := by simpa using hok.1
 obtain ⟨t, e1, e2, e3⟩ := OpName_eq x.op hop
 by_cases h1 : x.op = 1
 ·rw [if_pos h1] at hok
  have hv : x.d.valid = true := by have := hok.2; simp only [Bool.and_eq_true] at this; exact this.2
  have ho : x.d.okAll = true := by
   unfold valid at hv; simp only [Bool.and_eq_true] at hv; exact hv.2.2
  have hl := wW.1 x.d ho
  rw [if_pos h1, if_pos h1, e1, f6, e2, f6, i6 (by simp; omega), i6 (by simp; omega), qB x.d hv hw, f6, nU RF x.d (RF_cnt hs) ho hs hw, f6, i6 (by simp; omega)]
  exact ⟨_, rfl, rfl, fun _ => by simp; omega⟩
 ·rw [if_neg h1] at hok
  have ha : 0 ≤ x.a ∧ x.a ≤ 4000 := by
   have := hok.2; simp only [Bool.and_eq_true] at this; simpa using this.2.1
  have hi := kD x.a (by omega)
  rw [if_neg h1, if_neg h1]
  unfold bR
  by_cases h14 : x.op = 14
  ·rw [if_pos h14, if_pos h14, f6, if_pos rfl, e1, e2, f6]
   exact ⟨_, rfl, rfl, fun _ => by omega⟩
  rw [if_neg h14, if_neg h14, f6]
  by_cases h17 : x.op = 17
  ·rw [if_pos h17, if_pos (by simp [h17]), e1, e2, f6]
   exact ⟨_, rfl, rfl, fun _ => by omega⟩
  rw [if_neg h17, if_neg (by simp [h17]), e1, e2, f6, f6, i6 (by simp; omega), i6 (by simp; omega), R2 _ (by omega), K5 _ (by omega), f6, i6 (by simp; omega)]
  exact ⟨_, rfl, rfl, fun _ => by simp; omega⟩
end Go.Abs

namespace Go.Abs
open Go.Lib (itoa)
abbrev LL := List (LB)
theorem uE (xs : LL) (h : xs.length ≤ 1048576) : dA xs xs = some true := by
 unfold dA
 exact eqS_refl' (L := eI xs xs) xs h (fun go i => rfl)
def mtx (i : Nat) : LB := (F5 (1 + (i : Int))).getD []
theorem mtx_eq (i : Nat) (h : i ≤ 1048576) (k : Int) (hk : k = 1 + (i : Int)) : F5 k = some (mtx i) := by
 obtain ⟨t, ht⟩ := bI k (by omega)
 unfold mtx; rw [← hk, ht]; rfl
theorem qG (xs : LL) (hn : xs.length ≤ 1048576) : ∃ a', X4 xs 1 = some (1 + (xs.length : Int), a') ∧ a'.length = xs.length ∧ ∀ i : Nat, i < xs.length → a'[i]? = some (mtx i) := by
 unfold X4
 have := dK (L := bB) (fun r => ∃ a', r = (1 + (xs.length : Int), a') ∧ a'.length = xs.length ∧ ∀ i : Nat, i < xs.length → a'[i]? = some (mtx i)) (fun v => (0 ≤ v.2.1 ∧ v.2.1 ≤ xs.length) ∧ v.1 = 1 + v.2.1 ∧ v.2.2.length = xs.length ∧ ∀ i : Nat, (i : Int) < v.2.1 → v.2.2[i]? = some (mtx i)) (fun v => xs.length - v.2.1.toNat) (fun go v hv hgo => ?_) (1, 0, xs) ⟨⟨by show (0:Int) ≤ 0; omega, by show (0 : Int) ≤ _; omega⟩, rfl, rfl, fun i hi => by have : (i : Int) < 0 := hi; omega⟩ (by show xs.length - 0 < _; omega)
 ·obtain ⟨r, h1, a', h2, h3⟩ := this; exact ⟨a', by rw [h1, h2], h3⟩
 ·obtain ⟨k, j, a⟩ := v
  obtain ⟨⟨h1, h2⟩, h3, h4, h5⟩ := hv
  simp only at h1 h2 h3 h4 h5
  obtain ⟨i, rfl⟩ := Int.eq_ofNat_of_zero_le h1
  simp only [Int.ofNat_eq_natCast] at *
  show ∃ r, L3 go k (i : Int) a = some r ∧ _
  unfold L3
  by_cases hi : i < xs.length
  ·rw [if_pos (by omega), mtx_eq i (by omega) k h3, f6, m7 (by omega), f6, i6 (by omega), i6 (by omega), Int.toNat_natCast]
   refine hgo (k + 1, (i : Int) + 1, a.set i (mtx i)) ⟨⟨by show (0 : Int) ≤ (i : Int) + 1; omega, by show (i : Int) + 1 ≤ _; omega⟩, by show k + 1 = 1 + ((i : Int) + 1); omega, by simpa using h4, fun m hm => ?_⟩ (by show xs.length - ((i : Int) + 1).toNat < xs.length - (i : Int).toNat; omega)
   have hm' : (m : Int) < (i : Int) + 1 := hm
   show (a.set i (mtx i))[m]? = _
   by_cases e : i = m
   ·subst e
    rw [List.getElem?_set_self (by omega)]
   ·rw [List.getElem?_set_ne e]
    exact h5 m (by omega)
  ·have : i = xs.length := by omega
   subst this
   rw [if_neg (by omega)]
   exact ⟨_, rfl, _, by rw [h3], h4, fun m hm => h5 m (by omega)⟩
def fiT (x : PInstr) : LB := (A8 x).getD []
theorem fiT_eq {x : PInstr} (hw : wD x.d ≤ 1048576) : A8 x = some (fiT x) ∧ C6 x = some (fiT x) := by
 obtain ⟨t, e1, e2, _⟩ := FormatInstr_eq x hw
 have : fiT x = t := by unfold fiT; rw [e1]; rfl
 rw [this]; exact ⟨e1, e2⟩
def headT (c : PCode) : LB := [99, 111, 100, 101, 32] ++ itoa c.params ++ [32] ++ itoa c.slots ++ [32] ++ itoa c.captures
def codeT (c : PCode) : LL := headT c :: c.instrs.map fiT
def linesT (cs : List PCode) : LL := cs.flatMap codeT
theorem fU (c : PCode) (r : List PCode) : linesT (c :: r) = codeT c ++ linesT r := by unfold linesT; rw [List.flatMap_cons]
theorem vN : ∀ cs : List PCode, (linesT cs).length ≤ wts wC cs
 | [] => by simp [linesT]
 | c :: r => by
  have h := vN r
  rw [fU]
  have h1 : wts wC (c :: r) = 1 + wC c + wts wC r := by unfold wts; simp; omega
  have h2 : wC c = c.instrs.length + (c.instrs.map wI).sum := rfl
  rw [h1, List.length_append]
  unfold codeT
  simp only [List.length_cons, List.length_map]
  omega
theorem bU : ∀ cs : List PCode, cs.length ≤ (linesT cs).length
 | [] => Nat.zero_le _
 | c :: r => by
  have h := bU r
  rw [fU, List.length_append]
  have : (codeT c).length = c.instrs.length + 1 := by unfold codeT; simp
  simp only [List.length_cons]
  omega
def numsOK (c : PCode) : Prop := (-999999999 ≤ c.params ∧ c.params ≤ 999999999) ∧ (-999999999 ≤ c.slots ∧ c.slots ≤ 999999999) ∧ (-999999999 ≤ c.captures ∧ c.captures ≤ 999999999)
theorem isImg_nums {m : PImage} {n : Int} (h : isImg m n = true) : ∀ c ∈ m.codes, numsOK c := by
 intro c hc
 unfold isImg at h
 simp only [Bool.and_eq_true] at h
 have hk := h.2.2.2.2.1
 obtain ⟨k, hk1, hk2⟩ := List.getElem_of_mem hc
 unfold codesOK at hk
 have h1 := List.all_eq_true.1 hk k (List.mem_range.2 hk1)
 rw [Bool.and_eq_true] at h1
 have h2 := h1.1
 unfold codeOKs at h2
 rw [Bool.and_eq_true] at h2
 have h3 := h2.1
 have e : m.codes.getD k default = c := by simp [List.getD, List.getElem?_eq_getElem hk1, hk2]
 rw [e] at h3
 unfold headOK inside at h3
 simp only [Bool.and_eq_true, decide_eq_true_eq] at h3
 unfold numsOK
 omega
theorem lines_inner {FI : PInstr → Option (LB)} {L : (Int × LL → Option LL) → Int × LL → Option LL} (c : PCode) (k : LL → Option LL) (N : Nat) (hN : N ≤ 100000000) (hI : ∀ x ∈ c.instrs, FI x = some (fiT x)) (out : LL) (ho : out.length + c.instrs.length ≤ N)
 (hL : ∀ go (x9 : Int) (out10 : LL), L go (x9, out10) = if x9 < (c.instrs.length : Int) then
  bnd (nth c.instrs x9) fun x12 => bnd (FI x12) fun x13 => chk ((out10.length + ([x13] : LL).length) * 16 ≤ 140737488355328) <| chk (I64 (x9 + 1)) <| go ((x9 + 1), (out10 ++ ([x13] : LL)))
 else k out10) : itr L LF (0, out) = k (out ++ c.instrs.map fiT) := by
 rw [J7 (L := L) c.instrs.length (fun i a => a.length = out.length + i) (fun i a => k (a ++ (c.instrs.drop i).map fiT)) (by omega) (fun go i a hi ha hgo => ?_) (fun go a ha => ?_) (by simp)]
 ·rfl
 ·rw [hL, if_pos (by omega), m7 hi, f6, hI _ (List.getElem_mem hi), f6, i6 (by simp; omega), i6 (show -9223372036854775808 ≤ (i : Int) + 1 ∧ (i : Int) + 1 ≤ 9223372036854775807 by omega), hgo _ (by simp; omega), List.drop_eq_getElem_cons hi, List.map_cons]
  simp
 ·rw [hL, if_neg (by omega), List.drop_length]; simp
theorem sL {FN : Int → Option (LB)} {FI : PInstr → Option (LB)} {L1 : (Int × LL → Option LL) → Int × LL → Option LL} {L2 : Int → (Int × LL → Option LL) → PCode → (Int × LL → Option LL) → Int × LL → Option LL} (m : PImage) (hw : (linesT m.codes).length ≤ 1048576)
 (hn : ∀ c ∈ m.codes, numsOK c) (hI : ∀ c ∈ m.codes, ∀ x ∈ c.instrs, FI x = some (fiT x)) (hN : ∀ n : Int, -999999999 ≤ n ∧ n ≤ 999999999 → FN n = some (itoa n))
 (hL2 : ∀ (x2 : Int) go4 (c : PCode) go (x9 : Int) (out10 : LL), L2 x2 go4 c go (x9, out10) = if x9 < (c.instrs.length : Int) then
  bnd (nth c.instrs x9) fun x12 => bnd (FI x12) fun x13 => chk ((out10.length + ([x13] : LL).length) * 16 ≤ 140737488355328) <| chk (I64 (x9 + 1)) <| go ((x9 + 1), (out10 ++ ([x13] : LL)))
 else chk (I64 (x2 + 1)) <| go4 ((x2 + 1), out10))
 (hL1 : ∀ go4 (x2 : Int) (out3 : LL), L1 go4 (x2, out3) = if x2 < (m.codes.length : Int) then
  bnd (nth m.codes x2) fun x5 =>
  bnd (FN x5.params) fun x6 =>
  chk (([99, 111, 100, 101, 32] : LB).length + x6.length ≤ 9223372036854775807) <|
  chk ((([99, 111, 100, 101, 32] : LB) ++ x6).length + ([32] : LB).length ≤ 9223372036854775807) <|
  bnd (FN x5.slots) fun x7 =>
  chk (((([99, 111, 100, 101, 32] : LB) ++ x6) ++ ([32] : LB)).length + x7.length ≤ 9223372036854775807) <|
  chk ((((([99, 111, 100, 101, 32] : LB) ++ x6) ++ ([32] : LB)) ++ x7).length + ([32] : LB).length ≤ 9223372036854775807) <|
  bnd (FN x5.captures) fun x8 =>
  chk (((((([99, 111, 100, 101, 32] : LB) ++ x6) ++ ([32] : LB)) ++ x7) ++ ([32] : LB)).length + x8.length ≤ 9223372036854775807) <|
  chk ((out3.length + ([(((((([99, 111, 100, 101, 32] : LB) ++ x6) ++ ([32] : LB)) ++ x7) ++ ([32] : LB)) ++ x8)] : List (LB)).length) * 16 ≤ 140737488355328) <|
  itr (L2 x2 go4 x5) LF (0, (out3 ++ ([(((((([99, 111, 100, 101, 32] : LB) ++ x6) ++ ([32] : LB)) ++ x7) ++ ([32] : LB)) ++ x8)] : List (LB))))
 else some out3) : itr L1 LF (0, []) = some (linesT m.codes) := by
 have hcl := bU m.codes
 rw [J7 (L := L1) m.codes.length (fun i a => a.length + (linesT (m.codes.drop i)).length = (linesT m.codes).length) (fun i a => some (a ++ linesT (m.codes.drop i))) (by omega) (fun go i a hi ha hgo => ?_) (fun go a ha => ?_) (by simp)]
 ·simp
 ·have hc := List.getElem_mem hi
  obtain ⟨n1, n2, n3⟩ := hn _ hc
  have l1 := kD _ n1
  have l2 := kD _ n2
  have l3 := kD _ n3
  rw [List.drop_eq_getElem_cons hi, fU] at ha ⊢
  have hcd : (codeT m.codes[i]).length = 1 + m.codes[i].instrs.length := by unfold codeT; simp; omega
  rw [List.length_append, hcd] at ha
  rw [hL1, if_pos (by omega), m7 hi, f6, hN _ n1, f6, i6 (by simp; omega), i6 (by simp; omega), hN _ n2, f6, i6 (by simp; omega), i6 (by simp; omega), hN _ n3, f6, i6 (by simp; omega), i6 (by simp; omega)]
  rw [lines_inner (L := L2 (i : Int) go m.codes[i]) (FI := FI) m.codes[i] (fun o => chk (I64 ((i : Int) + 1)) <| go (((i : Int) + 1), o)) 100000000 (Nat.le_refl _) (hI _ hc) _ (by simp; omega) (fun go' x9 o => hL2 _ _ _ _ _ _)]
  rw [i6 (show -9223372036854775808 ≤ (i : Int) + 1 ∧ (i : Int) + 1 ≤ 9223372036854775807 by omega), hgo _ (by simp; omega)]
  unfold codeT headT
  simp
 ·rw [hL1, if_neg (by omega), List.drop_length]; simp [linesT]
theorem wM_instr {m : PImage} (hw : wM m ≤ 1048576) {c : PCode} (hc : c ∈ m.codes) {x : PInstr} (hx : x ∈ c.instrs) : wD x.d ≤ 1048576 := by
 have h1 := X6 (wt := wC) hc
 have h2 := X6 (wt := wI) hx
 have e1 : wM m = m.codes.length + wsum wC m.codes := rfl
 have e2 : wC c = c.instrs.length + wsum wI c.instrs := rfl
 have e3 : wI x = wD x.d := rfl
 omega
theorem gZ (m : PImage) (hl : (linesT m.codes).length ≤ 1048576) (hd : ∀ c ∈ m.codes, ∀ x ∈ c.instrs, wD x.d ≤ 1048576) (hn : ∀ c ∈ m.codes, numsOK c) : U8 m = some (linesT m.codes) := by
 unfold U8
 exact sL (FN := w7) (FI := A8) (L1 := bZ m) (L2 := cA) m hl hn (fun c hc x hx => (fiT_eq (hd c hc x hx)).1) (fun n h => R2 n h) (fun x2 go4 c go x9 o => rfl) (fun go4 x2 o => rfl)
theorem lE (m : PImage) (hl : (linesT m.codes).length ≤ 1048576) (hd : ∀ c ∈ m.codes, ∀ x ∈ c.instrs, wD x.d ≤ 1048576) (hn : ∀ c ∈ m.codes, numsOK c) : Y4 m = some (linesT m.codes) := by
 unfold Y4
 exact sL (FN := w8) (FI := C6) (L1 := gF m) (L2 := gG) m hl hn (fun c hc x hx => (fiT_eq (hd c hc x hx)).2) (fun n h => K5 n h) (fun x2 go4 c go x9 o => rfl) (fun go4 x2 o => rfl)
theorem linesT_wM {m : PImage} (hw : wM m ≤ 1048576) : (linesT m.codes).length ≤ 1048576 := by
 have h := vN m.codes
 have e : wM m = wts wC m.codes := rfl
 omega
theorem i_imageLines_eq (m : PImage) (hw : wM m ≤ 1048576) (hn : ∀ c ∈ m.codes, numsOK c) : U8 m = some (linesT m.codes) :=
 gZ m (linesT_wM hw) (fun c hc x hx => wM_instr hw hc hx) hn
theorem s_l10Lines_eq (m : PImage) (hw : wM m ≤ 1048576) (hn : ∀ c ∈ m.codes, numsOK c) : Y4 m = some (linesT m.codes) :=
 lE m (linesT_wM hw) (fun c hc x hx => wM_instr hw hc hx) hn
end Go.Abs
