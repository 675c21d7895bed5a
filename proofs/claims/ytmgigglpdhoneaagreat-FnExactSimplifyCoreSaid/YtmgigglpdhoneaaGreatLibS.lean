
import Derived.Test.YtmgigglpdhoneaaGreatLibP
import Derived.Test.YtmgigglpdhoneaaGreatLibF
set_option linter.unusedVariables false
set_option linter.unusedSimpArgs false
namespace Go.Abs
def symI (b : Int) : Bool := (decide (97 ≤ b) && decide (b ≤ 122)) || (decide (48 ≤ b) && decide (b ≤ 57)) || markOdd.contains b
theorem symI_b (b : UInt8) : symI b.toNat = markB b := rfl
theorem i_isDigit_eq (b : Int) : gR b = some (decide (48 ≤ b) && decide (b ≤ 57)) := by
 unfold gR
 by_cases h : 48 ≤ b <;> simp [h]
theorem uI (b : Int) : cB b = some (decide (48 ≤ b) && decide (b ≤ 57)) := by
 unfold cB
 by_cases h : 48 ≤ b <;> simp [h]
theorem qW (b : Int) (x : Bool) : B5 b x = some (x || markOdd.contains b) := by
 unfold B5
 cases x
 ·by_cases h : markOdd.contains b = true
  ·simp only [markOdd, List.contains_cons, Bool.or_eq_true, beq_iff_eq, List.contains_nil] at h
   rcases h with h | h | h | h | h | h | h | h | h | h | h | h
   all_goals first | (subst h; rfl) | cases h
  ·have h' : markOdd.contains b = false := by simpa using h
   simp only [markOdd, List.contains_cons, Bool.or_eq_true, beq_iff_eq, List.contains_nil, not_or] at h
   rw [h']
   simp [h]
 ·rfl
theorem xM (b : Int) : bY b = some (symI b) := by
 unfold bY symI
 simp only [qW]
 by_cases h1 : 97 ≤ b <;> by_cases h2 : b ≤ 122 <;> by_cases h3 : 48 ≤ b <;> simp [h1, h2, h3]
theorem zW (b : Int) (x : Bool) : T9 b x = some (x || markOdd.contains b) := by
 unfold T9
 cases x
 ·simp only [Bool.false_eq_true, if_false, Bool.false_or]
  have := dQ (L := pB b) 11 (fun i => some ((markTab.drop i).any fun c => decide (((c.toNat : Nat) : Int) = b))) (by omega) (fun go i hi hgo => ?_) (fun go => ?_)
  ·rw [this, List.drop_zero, markTab_any]
  ·show Z4 b go i = _
   unfold Z4
   have hl : i < markTab.length := hi
   have hl' : (i : Int) < 11 := by omega
   simp only [show ([33, 63, 42, 60, 62, 61, 47, 43, 45, 46, 95] : LB) = markTab from rfl, show (markTab.length : Int) = 11 from rfl, hl', if_true, t0 hl, f7]
   rw [m5 (by omega), hgo, List.drop_eq_getElem_cons hl, List.any_cons]
   by_cases h : (markTab[i].toNat : Int) = b <;> simp [h]
  ·show Z4 b go ((11 : Nat) : Int) = _
   rfl
 ·rfl
theorem s_l1Mark_eq (b : Int) : rL b = some (symI b) := by
 unfold rL symI
 simp only [zW, uI, f7]
 by_cases h1 : 97 ≤ b <;> by_cases h2 : b ≤ 122 <;> simp [h1, h2]
def SM (l : LB) : Prop := l.length ≤ 9223372036854775806
theorem xA (s : LB) (h : SM s) : itr (iQ s) LF 0 = some (s.all markB) := by
 rw [xP s markB (some true) (some false) (by unfold SM at h; omega) (fun go i hi => ?_) (fun go => ?_)]
 ·cases s.all markB <;> rfl
 ·show K6 s go i = _
  unfold K6 SM at *
  simp only [show ((i : Int) < (s.length : Int)) from by omega, if_true, t0 hi, f7, xM, symI_b]
  rw [m5 (by omega)]
 ·show K6 s go _ = _
  unfold K6
  simp
theorem yR (s : LB) (h : SM s) : itr (jN s) LF 0 = some (s.all markB) := by
 rw [xP s markB (some true) (some false) (by unfold SM at h; omega) (fun go i hi => ?_) (fun go => ?_)]
 ·cases s.all markB <;> rfl
 ·show L6 s go i = _
  unfold L6 SM at *
  simp only [show ((i : Int) < (s.length : Int)) from by omega, if_true, t0 hi, f7, s_l1Mark_eq, symI_b]
  rw [m5 (by omega)]
 ·show L6 s go _ = _
  unfold L6
  simp
theorem ae4 (s : LB) (h : SM s) : gO s = some (isSymbol s) := by
 unfold gO
 have hJ : ∀ b, C6 s b = some (!b && s.all markB) := fun b => by
  unfold C6
  cases b
  ·simp [xA s h]
  ·rfl
 simp only [hJ, i_isDigit_eq, f7]
 unfold isSymbol headBad isDigit
 by_cases h1 : (s.length : Int) < 1
 ·simp [h1]
 ·by_cases h2 : (s.length : Int) > 16
  ·simp [h1, h2]
  ·have hl : 0 < s.length := by omega
   have e0 : nth s 0 = some (s.getD 0 0) := by rw [show (0 : Int) = ((0 : Nat) : Int) from rfl, t0 hl]; simp [List.getD, List.getElem?_eq_getElem hl]
   simp only [h1, h2, if_false, e0, f7]
   generalize s.getD 0 0 = b0
   by_cases h3 : (decide (48 ≤ (b0.toNat : Int)) && decide ((b0.toNat : Int) ≤ 57)) = true
   ·simp [h3]
   ·simp only [h3, if_false]
    by_cases h4 : (b0.toNat : Int) = 45
    ·by_cases h5 : (s.length : Int) > 1
     ·have hl1 : 1 < s.length := by omega
      have e1 : nth s 1 = some (s.getD 1 0) := by rw [show (1 : Int) = ((1 : Nat) : Int) from rfl, t0 hl1]; simp [List.getD, List.getElem?_eq_getElem hl1]
      simp [h4, h5, e1]
     ·simp [h4, h5]
    ·simp [h4]
theorem T8 (x a b : Int) : aR x a b = some (inside x a b) := by
 unfold aR inside
 by_cases h : a ≤ x <;> simp [h]
theorem ag8 (s : LB) (h : SM s) : gX s = some (isSymbol s) := by
 unfold gX
 have hJ : ∀ b, E6 s b = some (!b && s.all markB) := fun b => by
  unfold E6
  cases b
  ·simp [yR s h]
  ·rfl
 simp only [hJ, uI, f7, T8]
 unfold isSymbol headBad isDigit inside
 by_cases h1 : (s.length : Int) < 1
 ·have h1' : (decide (1 ≤ (s.length : Int))) = false := by simp; omega
  simp [h1, h1']
 ·by_cases h2 : (s.length : Int) > 16
  ·simp [h1, h2]; omega
  ·have hl : 0 < s.length := by omega
   have e0 : nth s 0 = some (s.getD 0 0) := by rw [show (0 : Int) = ((0 : Nat) : Int) from rfl, t0 hl]; simp [List.getD, List.getElem?_eq_getElem hl]
   have h1' : 1 ≤ (s.length : Int) := by omega
   have h2' : (s.length : Int) ≤ 16 := by omega
   simp only [h1', h2', h1, h2, decide_true, Bool.and_self, if_true, e0, f7]
   generalize s.getD 0 0 = b0
   by_cases h3 : (decide (48 ≤ (b0.toNat : Int)) && decide ((b0.toNat : Int) ≤ 57)) = true
   ·simp [h3]
   ·simp only [h3, if_false]
    by_cases h4 : (b0.toNat : Int) = 45
    ·by_cases h5 : (s.length : Int) > 1
     ·have hl1 : 1 < s.length := by omega
      have e1 : nth s 1 = some (s.getD 1 0) := by rw [show (1 : Int) = ((1 : Nat) : Int) from rfl, t0 hl1]; simp [List.getD, List.getElem?_eq_getElem hl1]
      simp [h4, h5, e1]
     ·simp [h4, h5]
    ·simp [h4]
theorem xK (s : LB) (h : SM s) : bX s = some (isText s) := by
 unfold bX isText
 have hL : itr (dN s) LF 0 = some (s.all fun b => !badChar b) := by
  rw [xP s (fun b => !badChar b) (some true) (some false) (by unfold SM at h; omega) (fun go i hi => ?_) (fun go => ?_)]
  ·cases (s.all fun b => !badChar b) <;> rfl
  ·show G1 s go i = _
   unfold G1 SM at *
   simp only [show ((i : Int) < (s.length : Int)) from by omega, if_true, t0 hi, f7]
   rw [m5 (by omega)]
   unfold badChar
   by_cases h1 : (s[i].toNat : Int) < 32 <;> by_cases h2 : (s[i].toNat : Int) > 126 <;> by_cases h3 : (s[i].toNat : Int) = 34 <;> simp [h1, h2, h3]
  ·show G1 s go _ = _
   unfold G1
   simp
 rw [hL]
 by_cases h1 : (s.length : Int) > 20
 ·have : (decide ((s.length : Int) ≤ 20)) = false := by simp; omega
  simp [h1, this]
 ·have : (s.length : Int) ≤ 20 := by omega
  simp [h1]; omega
theorem ah2 (s : LB) (h : SM s) : gZ s = some (isText s) := by
 unfold gZ isText
 rw [xP s (fun b => !badChar b) (some (decide ((s.length : Int) ≤ 20))) (some false) (by unfold SM at h; omega) (fun go i hi => ?_) (fun go => ?_)]
 ·cases (s.all fun b => !badChar b) <;> simp
 ·show L7 s go i = _
  unfold L7 SM at *
  simp only [show ((i : Int) < (s.length : Int)) from by omega, if_true, t0 hi, f7]
  rw [m5 (by omega)]
  unfold badChar
  by_cases h1 : (s[i].toNat : Int) < 32 <;> by_cases h2 : (s[i].toNat : Int) > 126 <;> by_cases h3 : (s[i].toNat : Int) = 34 <;> simp [h1, h2, h3]
 ·show L7 s go _ = _
  unfold L7
  simp
theorem zO (k n : Int) (t : LB) (m : Int) (h : SM t) : dM k n t m = some (PD.nodeOK k n t m) := by
 unfold dM PD.nodeOK inside
 simp only [ae4 t h, xK t h, f7]
 repeat' split
 all_goals simp_all <;> omega
theorem s_l1Node_eq (k n : Int) (t : LB) (m : Int) (h : SM t) : rN k n t m = some (PD.nodeOK k n t m) := by
 unfold rN PD.nodeOK
 simp only [ag8 t h, ah2 t h, T8, f7]
 repeat' split
 all_goals simp_all <;> omega
end Go.Abs

namespace Go.Abs
open PD
theorem small_SM {d : PD} (h : d.small) : SM d.text := by
 have := ((ai4 d).1 h.1).1
 unfold SM; omega
theorem cG {d : PD} (h : d.small) : d.items.length ≤ 1048576 := by
 have h1 := cnts_len d.items
 have h2 := h.2
 rw [cnt_eq] at h2
 omega
theorem F5 {d : PD} (h : d.small) {i : Nat} (hi : i < d.items.length) : (d.items[i]).small ∧ (d.items[i]).cnt < d.cnt :=
 ⟨small_item h (List.getElem_mem hi), ad5 (List.getElem_mem hi)⟩
theorem eq_loop {E : PD → PD → Option Bool} {L : (Int → Option Bool) → Int → Option Bool} (a b : PD) (hl : a.items.length = b.items.length) (hn : a.items.length ≤ 1048576)
 (hE : ∀ i (h : i < a.items.length) (h2 : i < b.items.length), E a.items[i] b.items[i] = some (eqb a.items[i] b.items[i]))
 (hL : ∀ go (i : Int), L go i = if i < (a.items.length : Int) then bnd (nth a.items i) fun x => bnd (nth b.items i) fun y => bnd (E x y) fun e => if e = true then chk (I64 (i + 1)) (go (i + 1)) else some false else some true) :
 itr L LF 0 = some (eqbs a.items b.items) := by
 rw [dQ (L := L) a.items.length (fun i => some (eqbs (a.items.drop i) (b.items.drop i))) (by omega) (fun go i hi hgo => ?_) (fun go => ?_)]
 ·rfl
 ·have hi2 : i < b.items.length := by omega
  rw [hL, if_pos (by omega), t0 hi, t0 hi2]
  simp only [f7, hE i hi hi2]
  rw [m5 (by omega), hgo, List.drop_eq_getElem_cons hi, List.drop_eq_getElem_cons hi2, eqbs]
  cases eqb a.items[i] b.items[i] <;> simp
 ·rw [hL, if_neg (by omega), List.drop_length, hl, List.drop_length]; rfl
theorem nL : ∀ (n : Nat) (a b : PD), a.cnt < n → a.small → v9 n a b = some (eqb a b)
 | 0, a, b, h, _ => by omega
 | n + 1, a, b, h, ha => by
  show Z9 (v9 n) a b = _
  unfold Z9
  rw [eqb_eq]
  by_cases h1 : a.kind = b.kind <;> by_cases h2 : a.number = b.number <;> by_cases h3 : a.text = b.text <;> simp only [h1, h2, h3, if_true, if_false, decide_true, decide_false, Bool.true_and, Bool.false_and]
  by_cases h4 : a.items.length = b.items.length
  ·rw [if_pos (by omega), eq_loop (L := fY (v9 n) a b) a b h4 (cG ha) (E := v9 n) (fun i hi hi2 => nL n _ _ (by have := (F5 ha hi).2; omega) (F5 ha hi).1) (fun go i => rfl)]
  ·rw [if_neg (by omega)]
   cases he : eqbs a.items b.items
   ·rfl
   ·exact absurd (ad9 he) h4
theorem nU : ∀ (n : Nat) (a b : PD), a.cnt < n → a.small → w5 n a b = some (eqb a b)
 | 0, a, b, h, _ => by omega
 | n + 1, a, b, h, ha => by
  show aK (w5 n) a b = _
  unfold aK
  rw [eqb_eq]
  by_cases h1 : a.kind = b.kind <;> by_cases h2 : a.number = b.number <;> by_cases h3 : a.text = b.text <;> simp only [h1, h2, h3, if_true, if_false, decide_true, decide_false, Bool.true_and, Bool.false_and]
  by_cases h4 : a.items.length = b.items.length
  ·rw [if_pos (by omega), eq_loop (L := gB (w5 n) a b) a b h4 (cG ha) (E := w5 n) (fun i hi hi2 => nU n _ _ (by have := (F5 ha hi).2; omega) (F5 ha hi).1) (fun go i => rfl)]
  ·rw [if_neg (by omega)]
   cases he : eqbs a.items b.items
   ·rfl
   ·exact absurd (ad9 he) h4
mutual
theorem eqb_true : ∀ {a b : PD}, eqb a b = true → a = b
 | .mk k n t is, .mk k' n' t' is', h => by
  simp only [eqb, Bool.and_eq_true, decide_eq_true_eq] at h
  obtain ⟨rfl, rfl, rfl, h⟩ := h
  rw [eqbs_true h]
theorem eqbs_true : ∀ {a b : List PD}, eqbs a b = true → a = b
 | [], [], _ => rfl
 | x :: r, y :: s, h => by
  simp only [eqbs, Bool.and_eq_true] at h
  rw [eqb_true h.1, eqbs_true h.2]
 | [], _ :: _, h => by simp [eqbs] at h
 | _ :: _, [], h => by simp [eqbs] at h
end
theorem RF_cnt {d : PD} (h : d.small) : d.cnt < RF := by rw [RF_eq]; have := h.2; omega
theorem uA : ∀ (n : Nat) (d : PD) (deep nodes : Int), d.cnt < n → d.small → 0 ≤ deep → deep ≤ 21 → 0 ≤ nodes → nodes ≤ 600 → A7 n d deep nodes = some (meas d deep nodes)
 | 0, d, _, _, h, _, _, _, _, _ => by omega
 | n + 1, d, deep, nodes, h, hd, h1, h2, h3, h4 => by
  show dK (A7 n) d deep nodes = _
  unfold dK
  rw [meas_eq, m5 (by omega)]
  by_cases h5 : deep > 20
  ·rw [if_pos h5, if_pos (.inl h5)]
  ·rw [if_neg h5]
   by_cases h6 : nodes + 1 > 600
   ·rw [if_pos h6, if_pos (.inr (.inl h6))]
   ·rw [if_neg h6, zO _ _ _ _ (small_SM hd)]
    simp only [f7]
    cases h7 : nodeOK d.kind d.number d.text d.items.length
    ·simp
    ·rw [if_pos rfl, if_neg (by simp; omega)]
     have hs := cG hd
     rw [E4 (L := lG (A7 n) d deep) d.items.length (fun i a => 0 ≤ a ∧ a ≤ 600) (fun i a => some (measL (d.items.drop i) (deep + 1) a)) (by omega) (fun go i a hi ha hgo => ?_) (fun go a ha => ?_) (by omega)]
     ·rfl
     ·show O3 (A7 n) d deep go i a = _
      unfold O3
      rw [if_pos (by omega), t0 hi]
      simp only [f7]
      rw [m5 (by omega), uA n _ _ _ (by have := (F5 hd hi).2; omega) (F5 hd hi).1 (by omega) (by omega) ha.1 ha.2]
      simp only [f7]
      rw [List.drop_eq_getElem_cons hi, measL]
      by_cases h8 : (meas d.items[i] (deep + 1) a).1 = true
      ·rw [if_pos h8, if_pos h8, m5 (by omega), hgo]
       have := (lK.1 d.items[i] (deep + 1) a)
       have h9 := this.1.1 h8
       have h10 := this.2 h8
       omega
      ·rw [if_neg h8, if_neg h8]
     ·show O3 (A7 n) d deep go _ a = _
      unfold O3
      rw [if_neg (by omega), List.drop_length]; rfl
theorem i_IsDatum_eq (d : PD) (h : d.small) : lB d = some d.valid := by
 unfold lB
 rw [uA RF d 1 0 (RF_cnt h) h (by omega) (by omega) (by omega) (by omega)]
 simp only [f7, meas_valid]
theorem s_l1Few_eq (n : Nat) : ∀ (d : PD) (left : Int), d.cnt < n → d.small → 0 ≤ left → left ≤ 600 → D8 n d left = some (decide (0 ≤ few d left), few d left) := by
 induction n with
 | zero => intro d _ h; omega
 | succ n ih =>
  intro d left h hd h1 h2
  show lT (D8 n) d left = _
  unfold lT
  rw [few_eq, m5 (by omega)]
  have hs := cG hd
  rw [E4 (L := tL (D8 n) d) d.items.length (fun i a => -1 ≤ a ∧ a ≤ 600) (fun i a => some (decide (0 ≤ fews (d.items.drop i) a), fews (d.items.drop i) a)) (by omega) (fun go i a hi ha hgo => ?_) (fun go a ha => ?_) (by omega)]
  ·rw [List.drop_zero]
  ·show Y5 (D8 n) d go i a = _
   unfold Y5 bB
   rw [if_pos (by omega), List.drop_eq_getElem_cons hi, fews]
   by_cases h0 : 0 ≤ a
   ·rw [if_pos (by simpa using h0), if_pos h0, t0 hi]
    rw [f7]
    rw [ih _ _ (by have := (F5 hd hi).2; omega) (F5 hd hi).1 h0 ha.2]
    rw [f7]
    have := (qK.1 d.items[i] a h0).1
    generalize few d.items[i] a = z at this ⊢
    rw [m5 (by omega), hgo _ (by omega)]
   ·rw [if_neg (by simpa using h0), if_neg h0]
  ·show Y5 (D8 n) d go _ a = _
   unfold Y5 bB
   rw [if_neg (by omega), List.drop_length]
   simp only [fews, Bool.false_eq_true, if_false]
   rfl
theorem s_DepthOf_eq (n : Nat) : ∀ (d : PD), d.cnt < n → d.small → A9 n d = some d.depth := by
 induction n with
 | zero => intro d h; omega
 | succ n ih =>
  intro d h hd
  show dX (A9 n) d = _
  unfold dX
  have hs := cG hd
  have hc := hd.2
  have hdc := qF.1 d
  have hmax : ∀ x ∈ d.items, 0 ≤ x.depth ∧ x.depth ≤ 1048577 := fun x hx => by
   have h1 := qF.1 x
   have h2 := ad5 hx
   omega
  rw [af2 (L := lR (A9 n) d) d.items.length (fun i a => 0 ≤ a ∧ a ≤ 1048577) (fun i a => some (max a (depths (d.items.drop i)) + 1)) (by omega) (fun go i a hi ha hgo => ?_) (fun go a ha => ?_) (by omega)]
  ·rw [qG, List.drop_zero]
   have := C5 d.items
   rw [Int.max_eq_right this]
  ·show O8 (A9 n) d go a i = _
   unfold O8
   have hx := hmax _ (List.getElem_mem hi)
   rw [if_pos (by omega), t0 hi]
   rw [f7]
   rw [ih _ (by have := (F5 hd hi).2; omega) (F5 hd hi).1]
   rw [f7]
   rw [List.drop_eq_getElem_cons hi, depths]
   generalize depth d.items[i] = z at hx ⊢
   rw [m5 (by omega), hgo _ (by omega), Int.max_assoc]
  ·show O8 (A9 n) d go a _ = _
   unfold O8
   rw [if_neg (by omega), List.drop_length, m5 (by omega)]
   simp only [depths]
   rw [Int.max_eq_left ha.1]
theorem uJ : ∀ (n : Nat) (d : PD), d.cnt < n → d.small → B0 n d = some d.okAll
 | 0, d, h, _ => by omega
 | n + 1, d, h, hd => by
  show dZ (B0 n) d = _
  unfold dZ
  have hs := cG hd
  rw [okAll_eq, dQ (L := lU (B0 n) d) d.items.length (fun i => some (okAlls (d.items.drop i) && nodeOK d.kind d.number d.text d.items.length)) (by omega) (fun go i hi hgo => ?_) (fun go => ?_)]
  ·rw [List.drop_zero, Bool.and_comm]
  ·show O9 (B0 n) d go i = _
   unfold O9
   rw [if_pos (by omega), t0 hi]
   simp only [f7]
   rw [uJ n _ (by have := (F5 hd hi).2; omega) (F5 hd hi).1]
   simp only [f7]
   rw [m5 (by omega), hgo, List.drop_eq_getElem_cons hi, okAlls]
   cases okAll d.items[i] <;> simp
  ·show O9 (B0 n) d go _ = _
   unfold O9
   rw [if_neg (by omega), List.drop_length, s_l1Node_eq _ _ _ _ (small_SM hd)]
   simp [okAlls]
theorem s_IsDatum_eq (d : PD) (h : d.small) : lS d = some d.valid := by
 unfold lS
 rw [s_l1Few_eq RF d 600 (RF_cnt h) h (by omega) (by omega), s_DepthOf_eq RF d (RF_cnt h) h, uJ RF d (RF_cnt h) h]
 simp only [f7]
 rw [← few_valid]
 by_cases h1 : 0 ≤ few d 600 <;> by_cases h2 : d.depth ≤ 20 <;> simp [h1, h2]
end Go.Abs

namespace Go.Abs
open PD
mutual
def wD : PD → Nat
 | .mk _ _ t is => t.length + wDs is
def wDs : List PD → Nat
 | [] => 0
 | d :: r => 1 + wD d + wDs r
end
theorem tT (d : PD) : wD d = d.text.length + wDs d.items := by cases d; rfl
theorem wDs_eq : ∀ ds : List PD, wDs ds = wts wD ds
 | [] => rfl
 | d :: r => by have := wDs_eq r; unfold wts at *; simp [wDs]; omega
theorem wDs_mem : ∀ {ds : List PD} {x : PD}, x ∈ ds → wD x < wDs ds
 | d :: r, x, h => by
  unfold wDs
  rcases List.mem_cons.1 h with rfl | h
  ·omega
  ·have := wDs_mem h; omega
theorem wE : (∀ d : PD, d.cnt ≤ wD d) ∧ ∀ ds : List PD, cnts ds ≤ wDs ds := by
 refine ind (fun ds h => ?_) (fun d h => ?_)
 ·induction ds with
  | nil => simp [cnts]
  | cons x r ih => have := h x (by simp); have := ih (fun y hy => h y (by simp [hy])); unfold cnts wDs; omega
 ·rw [cnt_eq, tT]; omega
theorem short_wD : (∀ d : PD, wD d ≤ 1048576 → d.short) ∧ ∀ ds : List PD, wDs ds ≤ 1048576 → shorts ds := by
 refine ind (fun ds h => ?_) (fun d h => ?_)
 ·induction ds with
  | nil => intro _; trivial
  | cons x r ih => intro hw; unfold wDs at hw; exact ⟨h x (by simp) (by omega), ih (fun y hy => h y (by simp [hy])) (by omega)⟩
 ·intro hw; rw [tT] at hw; exact (ai4 d).2 ⟨by omega, h (by omega)⟩
theorem small_wD {d : PD} (h : wD d ≤ 1048576) : d.small := ⟨short_wD.1 d h, by have := wE.1 d; omega⟩
def fit (d : PD) : Prop := d.wf
theorem wf_len {d : PD} (h : d.wf) : d.text.length ≤ 9223372036854775807 ∧ d.items.length ≤ 9223372036854775807 ∧ ∀ x ∈ d.items, x.wf := by
 have := (wf_eq d).1 h
 exact ⟨this.2.2.1, this.2.2.2.1, fun x hx => wfs_mem this.2.2.2.2 hx⟩
theorem w_sz_eq : ∀ n : Nat, (∀ d : PD, d.wf → ∀ left : Int, 0 ≤ left → left ≤ 1048576 → 2 * left + 2 ≤ n → v8 n d left = some (szw (wD d) left)) ∧ (∀ ds : List PD, ds.length ≤ 9223372036854775807 → (∀ x ∈ ds, x.wf) → ∀ left : Int, 0 ≤ left → left ≤ 1048576 → 2 * left + 1 ≤ n → A4 n ds left = some (szw (wDs ds) left))
 | 0 => ⟨fun d _ left h1 _ h2 => by omega, fun ds _ _ left h1 _ h2 => by omega⟩
 | n + 1 => by
  have ih := w_sz_eq n
  refine ⟨fun d hw left h0 h1 h => ?_, fun ds hl hw left h0 h1 h => ?_⟩
  ·show eU (v8 n) (A4 n) d left = _
   unfold eU
   have hw' := wf_len hw
   rw [m5 (by omega), tT, ← yX]
   by_cases hx : left - (d.text.length : Int) < 0
   ·have e : szw d.text.length left = -1 := by unfold szw; rw [if_pos hx]
    rw [if_pos hx, e]; unfold szw; rw [if_pos (by omega)]
   ·have e : szw d.text.length left = left - d.text.length := by unfold szw; rw [if_neg hx]
    rw [if_neg hx, e, ih.2 d.items hw'.2.1 hw'.2.2 _ (by omega) (by omega) (by omega), f7, szw_if]
  ·show cK (v8 n) (A4 n) ds left = _
   unfold cK
   rw [wDs_eq]
   refine szS_eq (L := kN (v8 n) ds) (E := v8 n) wD ds left (fun x hx m hm hm2 => ih.1 x (hw x hx) m hm (by omega) ?_) (fun go left i => rfl) ⟨h0, h1⟩ hl
   have : 0 < ds.length := List.length_pos_of_mem hx
   omega
def rfOK (d : PD) : Prop := 2 * d.cnt + 1 < RF
theorem tE {d : PD} (h : d.small) : rfOK d := by unfold rfOK; rw [RF_eq]; have := h.2; omega
theorem w_to_eq : ∀ n : Nat, (∀ d : PD, 2 * d.cnt + 1 < n → d.small → t9 n d = some d) ∧ (∀ ds : List PD, 2 * cnts ds < n → cnts ds ≤ 1048576 → (∀ x ∈ ds, x.small) → A5 n ds = some ds)
 | 0 => ⟨fun d h => by omega, fun ds h => by omega⟩
 | n + 1 => by
  have ih := w_to_eq n
  refine ⟨fun d h hs => ?_, fun ds h hl hw => ?_⟩
  ·show eW (t9 n) (A5 n) d = _
   unfold eW
   have hc := cnt_eq d
   rw [ih.2 d.items (by omega) (by have := hs.2; omega) (fun x hx => small_item hs hx), f7]
   cases d; rfl
  ·show cL (t9 n) (A5 n) ds = _
   unfold cL
   exact toS_eq (L := kP (t9 n) ds) (T := t9 n) _ ds 56 (by omega) (by have := cnts_len ds; omega) (fun x hx => ih.1 x (by have := cnts_mem hx; omega) (hw x hx)) (fun go i out => rfl)
theorem w_eq_eq : ∀ n : Nat, (∀ d : PD, 2 * d.cnt + 1 < n → d.small → t8 n d d = some true) ∧ (∀ ds : List PD, 2 * cnts ds < n → cnts ds ≤ 1048576 → (∀ x ∈ ds, x.small) → A3 n ds ds = some true)
 | 0 => ⟨fun d h => by omega, fun ds h => by omega⟩
 | n + 1 => by
  have ih := w_eq_eq n
  refine ⟨fun d h hs => ?_, fun ds h hl hw => ?_⟩
  ·show eN (t8 n) (A3 n) d d = _
   unfold eN
   have hc := cnt_eq d
   rw [if_pos rfl, if_pos rfl, if_pos rfl, ih.2 d.items (by omega) (by have := hs.2; omega) (fun x hx => small_item hs hx), f7, if_pos rfl]
  ·show cJ (t8 n) (A3 n) ds ds = _
   unfold cJ
   exact eqS_refl (L := kD (t8 n) ds ds) (E := t8 n) ds (by have := cnts_len ds; omega) (fun x hx => ih.1 x (by have := cnts_mem hx; omega) (hw x hx)) (fun go i => rfl)
theorem toDatum_eq {d : PD} (h : d.small) : t9 RF d = some d := (w_to_eq RF).1 d (tE h) h
theorem eqDatum_eq {d : PD} (h : d.small) : t8 RF d d = some true := (w_eq_eq RF).1 d (tE h) h
theorem PD.wf_of {x : Int × Int × LB × List PD} (h : (IntKind.i64.min ≤ x.1 ∧ x.1 ≤ IntKind.i64.max) ∧ (IntKind.i64.min ≤ x.2.1 ∧ x.2.1 ≤ IntKind.i64.max) ∧ x.2.2.1.length ≤ 9223372036854775807 ∧ x.2.2.2.length ≤ 9223372036854775807 ∧ ∀ y ∈ x.2.2.2, y.wf) : (PD.mk x.1 x.2.1 x.2.2.1 x.2.2.2).wf :=
 ⟨h.1, h.2.1, h.2.2.1, h.2.2.2.1, wfs_of h.2.2.2.2⟩
end Go.Abs

namespace Go.Abs
open PD
theorem itr_ex {σ R : Type} {L : (σ → Option R) → σ → Option R} (Q : R → Prop) (P : σ → Prop) (μ : σ → Nat)
 (step : ∀ go v, P v → (∀ v', P v' → μ v' < μ v → ∃ r, go v' = some r ∧ Q r) → ∃ r, L go v = some r ∧ Q r) : ∀ n v, P v → μ v < n → ∃ r, itr L n v = some r ∧ Q r
 | 0, v, _, h => by omega
 | n + 1, v, hp, h => step (itr L n) v hp fun v' hp' hm => itr_ex Q P μ step n v' hp' (by omega)
theorem itr_exLF {σ R : Type} {L : (σ → Option R) → σ → Option R} (Q : R → Prop) (P : σ → Prop) (μ : σ → Nat)
 (step : ∀ go v, P v → (∀ v', P v' → μ v' < μ v → ∃ r, go v' = some r ∧ Q r) → ∃ r, L go v = some r ∧ Q r) (v : σ) (hp : P v) (h : μ v < 18446744073709551616) : ∃ r, itr L LF v = some r ∧ Q r := by
 rw [LF_eq]; exact itr_ex Q P μ step _ v hp h
theorem af6 (k : Int) (h : k ≤ 4611686018427387904) : ∃ t, Q8 k = some t := by
 unfold Q8
 by_cases h0 : k ≤ 0
 ·rw [if_pos h0]; exact ⟨_, rfl⟩
 ·rw [if_neg h0]
  have := itr_exLF (L := kJ) (fun _ => True) (fun v => 0 ≤ v.1 ∧ v.1 + v.2.length ≤ 4611686018427387904) (fun v => v.1.toNat) (fun go v hv hgo => ?_) (k, []) ⟨by omega, by simpa using h⟩ (by omega)
  ·obtain ⟨t, h1, _⟩ := this; exact ⟨t, h1⟩
  ·obtain ⟨k, out⟩ := v
   show ∃ r, X3 go k out = some r ∧ True
   unfold X3
   have h1 : 0 ≤ k := hv.1
   have h2 : k + (out.length : Int) ≤ 4611686018427387904 := hv.2
   by_cases hk : k > 0
   ·rw [if_pos hk, m5 (by omega), m5 (by omega), m5 (by omega), m5 (by simp; omega), m5 (by omega)]
    exact hgo _ ⟨by show 0 ≤ k / 10; omega, by simp; omega⟩ (by show (k / 10).toNat < k.toNat; omega)
   ·rw [if_neg hk, m5 (by simp; omega)]
    exact ⟨_, rfl, trivial⟩
theorem dT {α : Type} {l : List α} {i : Nat} {v : α} (h : i < l.length) : nth (l.set i v) (i : Int) = some v := by
 rw [t0 (by simpa using h)]; simp
theorem vS {α : Type} (wt : α → Nat) (x : α) (r : List α) : wts wt (x :: r) = 1 + wt x + wts wt r := by
 unfold wts; simp only [List.length_cons, List.map_cons, List.sum_cons]; omega
theorem vL (k n : Int) (t : LB) (is : List PD) : (PD.mk k n t is).items = is := rfl
theorem mk_kind (k n : Int) (t : LB) (is : List PD) : (PD.mk k n t is).kind = k := rfl
theorem xY (k n : Int) (t : LB) (is : List PD) : (PD.mk k n t is).number = n := rfl
theorem mk_text (k n : Int) (t : LB) (is : List PD) : (PD.mk k n t is).text = t := rfl
end Go.Abs
