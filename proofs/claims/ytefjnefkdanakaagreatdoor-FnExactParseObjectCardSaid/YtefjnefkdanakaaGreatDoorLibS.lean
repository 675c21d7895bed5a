
import Derived.Test.YtefjnefkdanakaaGreatDoorLibP
import Derived.Test.YtefjnefkdanakaaGreatDoorLibF
set_option linter.unusedVariables false
set_option linter.unusedSimpArgs false
namespace Go.Abs
def symI (b : Int) : Bool := (decide (97 ≤ b) && decide (b ≤ 122)) || (decide (48 ≤ b) && decide (b ≤ 57)) || markOdd.contains b
theorem symI_b (b : UInt8) : symI b.toNat = markB b := rfl
theorem i_isDigit_eq (b : Int) : gR b = some (decide (48 ≤ b) && decide (b ≤ 57)) := by
 unfold gR;by_cases h : 48 ≤ b <;> simp [h]
theorem lP (b : Int) : aK b = some (decide (48 ≤ b) && decide (b ≤ 57)) := by
 unfold aK;by_cases h : 48 ≤ b <;> simp [h]
theorem pT (b : Int) (x : Bool) : B0 b x = some (x || markOdd.contains b) := by
 unfold B0;cases x
 ·by_cases h : markOdd.contains b = true
  ·simp only [markOdd, List.contains_cons, Bool.or_eq_true, beq_iff_eq, List.contains_nil] at h;rcases h with h | h | h | h | h | h | h | h | h | h | h | h;all_goals first | (subst h; rfl) | cases h
  ·have h' : markOdd.contains b = false := by simpa using h
   simp only [markOdd, List.contains_cons, Bool.or_eq_true, beq_iff_eq, List.contains_nil, not_or] at h;rw [h'];simp [h]
 ·rfl
theorem vX (b : Int) : bL b = some (symI b) := by
 unfold bL symI;simp only [pT];by_cases h1 : 97 ≤ b <;> by_cases h2 : b ≤ 122 <;> by_cases h3 : 48 ≤ b <;> simp [h1, h2, h3]
theorem zA (b : Int) (x : Bool) : U0 b x = some (x || markOdd.contains b) := by
 unfold U0;cases x
 ·simp only [Bool.false_eq_true, if_false, Bool.false_or];have := fQ (L := oR b) 11 (fun i => some ((markTab.drop i).any fun c => decide (((c.toNat : Nat) : Int) = b))) (by omega) (fun go i hi hgo => ?_) (fun go => ?_)
  ·rw [this, List.drop_zero, markTab_any]
  ·show Z1 b go i = _;unfold Z1;have hl : i < markTab.length := hi;have hl' : (i : Int) < 11 := by omega
   simp only [show ([33, 63, 42, 60, 62, 61, 47, 43, 45, 46, 95] : LB) = markTab from rfl, show (markTab.length : Int) = 11 from rfl, hl', if_true, o9 hl, f7];rw [j5 (by omega), hgo, List.drop_eq_getElem_cons hl, List.any_cons];by_cases h : (markTab[i].toNat : Int) = b <;> simp [h]
  ·show Z1 b go ((11 : Nat) : Int) = _;rfl
 ·rfl
theorem s_l1Mark_eq (b : Int) : qW b = some (symI b) := by
 unfold qW symI;simp only [zA, lP, f7];by_cases h1 : 97 ≤ b <;> by_cases h2 : b ≤ 122 <;> simp [h1, h2]
def SM (l : LB) : Prop := l.length ≤ 9223372036854775806
theorem vV (s : LB) (h : SM s) : itr (iT s) LF 0 = some (s.all markB) := by
 rw [oD s markB (some true) (some false) (by unfold SM at h; omega) (fun go i hi => ?_) (fun go => ?_)]
 ·cases s.all markB <;> rfl
 ·show L6 s go i = _;unfold L6 SM at *;simp only [show ((i : Int) < (s.length : Int)) from by omega, if_true, o9 hi, f7, vX, symI_b];rw [j5 (by omega)]
 ·show L6 s go _ = _;unfold L6;simp
theorem xK (s : LB) (h : SM s) : itr (jI s) LF 0 = some (s.all markB) := by
 rw [oD s markB (some true) (some false) (by unfold SM at h; omega) (fun go i hi => ?_) (fun go => ?_)]
 ·cases s.all markB <;> rfl
 ·show M4 s go i = _;unfold M4 SM at *;simp only [show ((i : Int) < (s.length : Int)) from by omega, if_true, o9 hi, f7, s_l1Mark_eq, symI_b];rw [j5 (by omega)]
 ·show M4 s go _ = _;unfold M4;simp
theorem iU (s : LB) (h : SM s) : aQ s = some (isSymbol s) := by
 unfold aQ;have hJ : ∀ b, C6 s b = some (!b && s.all markB) := fun b => by
  unfold C6;cases b
  ·simp [vV s h]
  ·rfl
 simp only [hJ, i_isDigit_eq, f7];unfold isSymbol headBad isDigit;by_cases h1 : (s.length : Int) < 1
 ·simp [h1]
 ·by_cases h2 : (s.length : Int) > 16
  ·simp [h1, h2]
  ·have hl : 0 < s.length := by omega
   have e0 : nth s 0 = some (s.getD 0 0) := by rw [show (0 : Int) = ((0 : Nat) : Int) from rfl, o9 hl]; simp [List.getD, List.getElem?_eq_getElem hl]
   simp only [h1, h2, if_false, e0, f7];generalize s.getD 0 0 = b0;by_cases h3 : (decide (48 ≤ (b0.toNat : Int)) && decide ((b0.toNat : Int) ≤ 57)) = true
   ·simp [h3]
   ·simp only [h3, if_false];by_cases h4 : (b0.toNat : Int) = 45
    ·by_cases h5 : (s.length : Int) > 1
     ·have hl1 : 1 < s.length := by omega
      have e1 : nth s 1 = some (s.getD 1 0) := by rw [show (1 : Int) = ((1 : Nat) : Int) from rfl, o9 hl1]; simp [List.getD, List.getElem?_eq_getElem hl1]
      simp [h4, h5, e1]
     ·simp [h4, h5]
    ·simp [h4]
theorem bU (x a b : Int) : Z0 x a b = some (inside x a b) := by
 unfold Z0 inside;by_cases h : a ≤ x <;> simp [h]
theorem aG (s : LB) (h : SM s) : S6 s = some (isSymbol s) := by
 unfold S6;have hJ : ∀ b, E6 s b = some (!b && s.all markB) := fun b => by
  unfold E6;cases b
  ·simp [xK s h]
  ·rfl
 simp only [hJ, lP, f7, bU];unfold isSymbol headBad isDigit inside;by_cases h1 : (s.length : Int) < 1
 ·have h1' : (decide (1 ≤ (s.length : Int))) = false := by simp; omega
  simp [h1, h1']
 ·by_cases h2 : (s.length : Int) > 16
  ·simp [h1, h2]; omega
  ·have hl : 0 < s.length := by omega
   have e0 : nth s 0 = some (s.getD 0 0) := by rw [show (0 : Int) = ((0 : Nat) : Int) from rfl, o9 hl]; simp [List.getD, List.getElem?_eq_getElem hl]
   have h1' : 1 ≤ (s.length : Int) := by omega
   have h2' : (s.length : Int) ≤ 16 := by omega
   simp only [h1', h2', h1, h2, decide_true, Bool.and_self, if_true, e0, f7];generalize s.getD 0 0 = b0;by_cases h3 : (decide (48 ≤ (b0.toNat : Int)) && decide ((b0.toNat : Int) ≤ 57)) = true
   ·simp [h3]
   ·simp only [h3, if_false];by_cases h4 : (b0.toNat : Int) = 45
    ·by_cases h5 : (s.length : Int) > 1
     ·have hl1 : 1 < s.length := by omega
      have e1 : nth s 1 = some (s.getD 1 0) := by rw [show (1 : Int) = ((1 : Nat) : Int) from rfl, o9 hl1]; simp [List.getD, List.getElem?_eq_getElem hl1]
      simp [h4, h5, e1]
     ·simp [h4, h5]
    ·simp [h4]
theorem kT (s : LB) (h : SM s) : T8 s = some (isText s) := by
 unfold T8 isText;have hL : itr (dS s) LF 0 = some (s.all fun b => !badChar b) := by
  rw [oD s (fun b => !badChar b) (some true) (some false) (by unfold SM at h; omega) (fun go i hi => ?_) (fun go => ?_)]
  ·cases (s.all fun b => !badChar b) <;> rfl
  ·show F0 s go i = _;unfold F0 SM at *;simp only [show ((i : Int) < (s.length : Int)) from by omega, if_true, o9 hi, f7];rw [j5 (by omega)];unfold badChar;by_cases h1 : (s[i].toNat : Int) < 32 <;> by_cases h2 : (s[i].toNat : Int) > 126 <;> by_cases h3 : (s[i].toNat : Int) = 34 <;> simp [h1, h2, h3]
  ·show F0 s go _ = _;unfold F0;simp
 rw [hL];by_cases h1 : (s.length : Int) > 20
 ·have : (decide ((s.length : Int) ≤ 20)) = false := by simp; omega
  simp [h1, this]
 ·have : (s.length : Int) ≤ 20 := by omega
  simp [h1]; omega
theorem jQ (s : LB) (h : SM s) : V6 s = some (isText s) := by
 unfold V6 isText;rw [oD s (fun b => !badChar b) (some (decide ((s.length : Int) ≤ 20))) (some false) (by unfold SM at h; omega) (fun go i hi => ?_) (fun go => ?_)]
 ·cases (s.all fun b => !badChar b) <;> simp
 ·show M7 s go i = _;unfold M7 SM at *;simp only [show ((i : Int) < (s.length : Int)) from by omega, if_true, o9 hi, f7];rw [j5 (by omega)];unfold badChar;by_cases h1 : (s[i].toNat : Int) < 32 <;> by_cases h2 : (s[i].toNat : Int) > 126 <;> by_cases h3 : (s[i].toNat : Int) = 34 <;> simp [h1, h2, h3]
 ·show M7 s go _ = _;unfold M7;simp
theorem yQ (k n : Int) (t : LB) (m : Int) (h : SM t) : dQ k n t m = some (PD.nodeOK k n t m) := by
 unfold dQ PD.nodeOK inside;simp only [iU t h, kT t h, f7];repeat' split
 all_goals simp_all <;> omega
theorem s_l1Node_eq (k n : Int) (t : LB) (m : Int) (h : SM t) : qX k n t m = some (PD.nodeOK k n t m) := by
 unfold qX PD.nodeOK;simp only [aG t h, jQ t h, bU, f7];repeat' split
 all_goals simp_all <;> omega
end Go.Abs

namespace Go.Abs
open PD
theorem small_SM {d : PD} (h : d.small) : SM d.text := by
 have := ((ag3 d).1 h.1).1;unfold SM; omega
theorem aL {d : PD} (h : d.small) : d.items.length ≤ 1048576 := by
 have h1 := cnts_len d.items;have h2 := h.2;rw [cnt_eq] at h2;omega
theorem B9 {d : PD} (h : d.small) {i : Nat} (hi : i < d.items.length) : (d.items[i]).small ∧ (d.items[i]).cnt < d.cnt :=
 ⟨aa6 h (List.getElem_mem hi), ab5 (List.getElem_mem hi)⟩
theorem eq_loop {E : PD → PD → Option Bool} {L : (Int → Option Bool) → Int → Option Bool} (a b : PD) (hl : a.items.length = b.items.length) (hn : a.items.length ≤ 1048576)
 (hE : ∀ i (h : i < a.items.length) (h2 : i < b.items.length), E a.items[i] b.items[i] = some (eqb a.items[i] b.items[i]))
 (hL : ∀ go (i : Int), L go i = if i < (a.items.length : Int) then bnd (nth a.items i) fun x => bnd (nth b.items i) fun y => bnd (E x y) fun e => if e = true then chk (I64 (i + 1)) (go (i + 1)) else some false else some true) :
 itr L LF 0 = some (eqbs a.items b.items) := by
 rw [fQ (L := L) a.items.length (fun i => some (eqbs (a.items.drop i) (b.items.drop i))) (by omega) (fun go i hi hgo => ?_) (fun go => ?_)]
 ·rfl
 ·have hi2 : i < b.items.length := by omega
  rw [hL, if_pos (by omega), o9 hi, o9 hi2];simp only [f7, hE i hi hi2];rw [j5 (by omega), hgo, List.drop_eq_getElem_cons hi, List.drop_eq_getElem_cons hi2, eqbs];cases eqb a.items[i] b.items[i] <;> simp
 ·rw [hL, if_neg (by omega), List.drop_length, hl, List.drop_length]; rfl
theorem nP : ∀ (n : Nat) (a b : PD), a.cnt < n → a.small → u3 n a b = some (eqb a b)
 | 0, a, b, h, _ => by omega
 | n + 1, a, b, h, ha => by
  show Z7 (u3 n) a b = _;unfold Z7;rw [eqb_eq];by_cases h1 : a.kind = b.kind <;> by_cases h2 : a.number = b.number <;> by_cases h3 : a.text = b.text <;> simp only [h1, h2, h3, if_true, if_false, decide_true, decide_false, Bool.true_and, Bool.false_and]
  by_cases h4 : a.items.length = b.items.length
  ·rw [if_pos (by omega), eq_loop (L := fM (u3 n) a b) a b h4 (aL ha) (E := u3 n) (fun i hi hi2 => nP n _ _ (by have := (B9 ha hi).2; omega) (B9 ha hi).1) (fun go i => rfl)]
  ·rw [if_neg (by omega)];cases he : eqbs a.items b.items
   ·rfl
   ·exact absurd (ac2 he) h4
theorem nV : ∀ (n : Nat) (a b : PD), a.cnt < n → a.small → u4 n a b = some (eqb a b)
 | 0, a, b, h, _ => by omega
 | n + 1, a, b, h, ha => by
  show aE (u4 n) a b = _;unfold aE;rw [eqb_eq];by_cases h1 : a.kind = b.kind <;> by_cases h2 : a.number = b.number <;> by_cases h3 : a.text = b.text <;> simp only [h1, h2, h3, if_true, if_false, decide_true, decide_false, Bool.true_and, Bool.false_and]
  by_cases h4 : a.items.length = b.items.length
  ·rw [if_pos (by omega), eq_loop (L := fS (u4 n) a b) a b h4 (aL ha) (E := u4 n) (fun i hi hi2 => nV n _ _ (by have := (B9 ha hi).2; omega) (B9 ha hi).1) (fun go i => rfl)]
  ·rw [if_neg (by omega)];cases he : eqbs a.items b.items
   ·rfl
   ·exact absurd (ac2 he) h4
theorem RF_cnt {d : PD} (h : d.small) : d.cnt < RF := by rw [RF_eq]; have := h.2; omega
theorem kR : ∀ (n : Nat) (d : PD) (deep nodes : Int), d.cnt < n → d.small → 0 ≤ deep → deep ≤ 21 → 0 ≤ nodes → nodes ≤ 600 → z8 n d deep nodes = some (meas d deep nodes)
 | 0, d, _, _, h, _, _, _, _, _ => by omega
 | n + 1, d, deep, nodes, h, hd, h1, h2, h3, h4 => by
  show dL (z8 n) d deep nodes = _;unfold dL;rw [meas_eq, j5 (by omega)];by_cases h5 : deep > 20
  ·rw [if_pos h5, if_pos (.inl h5)]
  ·rw [if_neg h5];by_cases h6 : nodes + 1 > 600
   ·rw [if_pos h6, if_pos (.inr (.inl h6))]
   ·rw [if_neg h6, yQ _ _ _ _ (small_SM hd)];simp only [f7];cases h7 : nodeOK d.kind d.number d.text d.items.length
    ·simp
    ·rw [if_pos rfl, if_neg (by simp; omega)];have hs := aL hd;rw [K2 (L := kQ (z8 n) d deep) d.items.length (fun i a => 0 ≤ a ∧ a ≤ 600) (fun i a => some (measL (d.items.drop i) (deep + 1) a)) (by omega) (fun go i a hi ha hgo => ?_) (fun go a ha => ?_) (by omega)]
     ·rfl
     ·show P8 (z8 n) d deep go i a = _;unfold P8;rw [if_pos (by omega), o9 hi];simp only [f7];rw [j5 (by omega), kR n _ _ _ (by have := (B9 hd hi).2; omega) (B9 hd hi).1 (by omega) (by omega) ha.1 ha.2];simp only [f7];rw [List.drop_eq_getElem_cons hi, measL];by_cases h8 : (meas d.items[i] (deep + 1) a).1 = true
      ·rw [if_pos h8, if_pos h8, j5 (by omega), hgo];have := (pZ.1 d.items[i] (deep + 1) a)
       have h9 := this.1.1 h8;have h10 := this.2 h8;omega
      ·rw [if_neg h8, if_neg h8]
     ·show P8 (z8 n) d deep go _ a = _;unfold P8;rw [if_neg (by omega), List.drop_length]; rfl
theorem sT (d : PD) (h : d.small) : gK d = some d.valid := by
 unfold gK;rw [kR RF d 1 0 (RF_cnt h) h (by omega) (by omega) (by omega) (by omega)];simp only [f7, meas_valid]
theorem s_l1Few_eq (n : Nat) : ∀ (d : PD) (left : Int), d.cnt < n → d.small → 0 ≤ left → left ≤ 600 → D8 n d left = some (decide (0 ≤ few d left), few d left) := by
 induction n with
 | zero => intro d _ h; omega
 | succ n ih =>
  intro d left h hd h1 h2;show lQ (D8 n) d left = _;unfold lQ;rw [few_eq, j5 (by omega)];have hs := aL hd;rw [K2 (L := sM (D8 n) d) d.items.length (fun i a => -1 ≤ a ∧ a ≤ 600) (fun i a => some (decide (0 ≤ fews (d.items.drop i) a), fews (d.items.drop i) a)) (by omega) (fun go i a hi ha hgo => ?_) (fun go a ha => ?_) (by omega)]
  ·rw [List.drop_zero]
  ·show X9 (D8 n) d go i a = _;unfold X9 aW;rw [if_pos (by omega), List.drop_eq_getElem_cons hi, fews];by_cases h0 : 0 ≤ a
   ·rw [if_pos (by simpa using h0), if_pos h0, o9 hi];rw [f7];rw [ih _ _ (by have := (B9 hd hi).2; omega) (B9 hd hi).1 h0 ha.2];rw [f7];have := (few_spec.1 d.items[i] a h0).1;generalize few d.items[i] a = z at this ⊢;rw [j5 (by omega), hgo _ (by omega)]
   ·rw [if_neg (by simpa using h0), if_neg h0]
  ·show X9 (D8 n) d go _ a = _;unfold X9 aW;rw [if_neg (by omega), List.drop_length];simp only [fews, Bool.false_eq_true, if_false];rfl
theorem s_DepthOf_eq (n : Nat) : ∀ (d : PD), d.cnt < n → d.small → A6 n d = some d.depth := by
 induction n with
 | zero => intro d h; omega
 | succ n ih =>
  intro d h hd;show eB (A6 n) d = _;unfold eB;have hs := aL hd;have hc := hd.2;have hdc := depth_cnt.1 d;have hmax : ∀ x ∈ d.items, 0 ≤ x.depth ∧ x.depth ≤ 1048577 := fun x hx => by
   have h1 := depth_cnt.1 x;have h2 := ab5 hx;omega
  rw [itr_Aidx (L := lF (A6 n) d) d.items.length (fun i a => 0 ≤ a ∧ a ≤ 1048577) (fun i a => some (max a (depths (d.items.drop i)) + 1)) (by omega) (fun go i a hi ha hgo => ?_) (fun go a ha => ?_) (by omega)]
  ·rw [depth_eq, List.drop_zero];have := Z6 d.items;rw [Int.max_eq_right this]
  ·show Q1 (A6 n) d go a i = _;unfold Q1;have hx := hmax _ (List.getElem_mem hi);rw [if_pos (by omega), o9 hi];rw [f7];rw [ih _ (by have := (B9 hd hi).2; omega) (B9 hd hi).1];rw [f7];rw [List.drop_eq_getElem_cons hi, depths];generalize depth d.items[i] = z at hx ⊢;rw [j5 (by omega), hgo _ (by omega), Int.max_assoc]
  ·show Q1 (A6 n) d go a _ = _;unfold Q1;rw [if_neg (by omega), List.drop_length, j5 (by omega)];simp only [depths];rw [Int.max_eq_left ha.1]
theorem tJ : ∀ (n : Nat) (d : PD), d.cnt < n → d.small → A7 n d = some d.okAll
 | 0, d, h, _ => by omega
 | n + 1, d, h, hd => by
  show eJ (A7 n) d = _;unfold eJ;have hs := aL hd;rw [qG, fQ (L := lS (A7 n) d) d.items.length (fun i => some (okAlls (d.items.drop i) && nodeOK d.kind d.number d.text d.items.length)) (by omega) (fun go i hi hgo => ?_) (fun go => ?_)]
  ·rw [List.drop_zero, Bool.and_comm]
  ·show R2 (A7 n) d go i = _;unfold R2;rw [if_pos (by omega), o9 hi];simp only [f7];rw [tJ n _ (by have := (B9 hd hi).2; omega) (B9 hd hi).1];simp only [f7];rw [j5 (by omega), hgo, List.drop_eq_getElem_cons hi, okAlls];cases okAll d.items[i] <;> simp
  ·show R2 (A7 n) d go _ = _;unfold R2;rw [if_neg (by omega), List.drop_length, s_l1Node_eq _ _ _ _ (small_SM hd)];simp [okAlls]
theorem tD (d : PD) (h : d.small) : gY d = some d.valid := by
 unfold gY;rw [s_l1Few_eq RF d 600 (RF_cnt h) h (by omega) (by omega), s_DepthOf_eq RF d (RF_cnt h) h, tJ RF d (RF_cnt h) h];simp only [f7];rw [← few_valid];by_cases h1 : 0 ≤ few d 600 <;> by_cases h2 : d.depth ≤ 20 <;> simp [h1, h2]
theorem sY (x : PInstr) (h : x.d.small) : gQ x = some (instrOK x) := by
 unfold gQ instrOK inside;rw [sT _ h, nP RF _ _ (RF_cnt h) h];simp only [f7, show PD.mk 0 0 ([] : LB) [] = zeroDat from rfl];by_cases h1 : x.op < 1
 ·have : ¬ 1 ≤ x.op := by omega
  simp [h1, this]
 ·have h1' : 1 ≤ x.op := by omega
  by_cases h2 : x.op > 20
  ·have : ¬ x.op ≤ 20 := by omega
   simp [h1, h2, this]
  ·have h2' : x.op ≤ 20 := by omega
   by_cases h3 : x.op = 1
   ·by_cases h4 : x.a = 0 <;> simp [h3, h4]
   ·simp only [h1, h2, h3, h1', h2', if_false, decide_true, Bool.true_and, Bool.and_self];cases eqb x.d zeroDat
    ·simp
    ·by_cases h5 : x.a < 0
     ·have : ¬ 0 ≤ x.a := by omega
      simp [h5, this]
     ·have h5' : 0 ≤ x.a := by omega
      by_cases h6 : x.a > 4000
      ·have : ¬ x.a ≤ 4000 := by omega
       simp [h5, h6, this]
      ·have h6' : x.a ≤ 4000 := by omega
       by_cases h7 : x.a = 0 <;> by_cases h8 : x.op = 14 <;> simp [h5, h6, h5', h6', h7, h8]
theorem qP (x : PInstr) (h : x.d.small) : cX x = some (instrOK x) := by
 unfold cX instrOK cY;rw [tD _ h, nV RF _ _ (RF_cnt h) h];simp only [f7, show PD.mk 0 0 ([] : LB) [] = zeroDat from rfl, bU];cases inside x.op 1 20
 ·simp
 ·by_cases h3 : x.op = 1
  ·by_cases h4 : x.a = 0 <;> simp [h3, h4]
  ·cases eqb x.d zeroDat
   ·simp [h3]
   ·cases inside x.a 0 4000
    ·simp [h3]
    ·by_cases h7 : x.a = 0 <;> by_cases h8 : x.op = 14 <;> simp [h3, h7, h8]
end Go.Abs

namespace Go.Abs
theorem cQ {α : Type} {d : α} {l : List α} {i : Int} (h : 0 ≤ i) (h2 : i < l.length) : nth l i = some (l.getD i.toNat d) := by
 rw [nth_int h h2];have : i.toNat < l.length := by omega
 simp [List.getD, List.getElem?_eq_getElem this]
theorem X0 {α : Type} {d : α} {l : List α} {i : Nat} (h : i < l.length) : nth l (i : Int) = some (l.getD i d) := by
 rw [o9 h]; simp [List.getD, List.getElem?_eq_getElem h]
theorem mW (n : Int) : n = 1 ∨ n = 2 ∨ n = 3 ∨ n = 4 ∨ n = 5 ∨ n = 6 ∨ n = 7 ∨ n = 8 ∨ n = 9 ∨ n = 10 ∨ n = 11 ∨ n = 12 ∨ n = 13 ∨ n = 14 ∨ n = 15 ∨ n = 16 ∨ n = 17 ∨ n = 18 ∨ n = 19 ∨ n = 20 ∨ (¬ n = 1 ∧ ¬ n = 2 ∧ ¬ n = 3 ∧ ¬ n = 4 ∧ ¬ n = 5 ∧ ¬ n = 6 ∧ ¬ n = 7 ∧ ¬ n = 8 ∧ ¬ n = 9 ∧ ¬ n = 10 ∧ ¬ n = 11 ∧ ¬ n = 12 ∧ ¬ n = 13 ∧ ¬ n = 14 ∧ ¬ n = 15 ∧ ¬ n = 16 ∧ ¬ n = 17 ∧ ¬ n = 18 ∧ ¬ n = 19 ∧ ¬ n = 20) := by omega
def namedOp (x : PInstr) : Prop := x.op = 11 ∨ x.op = 18 ∨ x.op = 19 ∨ x.op = 20
instance (x : PInstr) : Decidable (namedOp x) := by unfold namedOp; infer_instance
theorem i_effect_eq (m : PImage) (x : PInstr) (h : namedOp x → 0 ≤ x.a ∧ x.a < m.codes.length) (ha : 0 ≤ x.a ∧ x.a ≤ 4000) : pR m x = some (effectOf m x) := by
 unfold pR effectOf;rw [j5 (by omega), j5 (by omega)];by_cases hn : namedOp x
 ·obtain ⟨h1, h2⟩ := h hn;rw [cQ (d := default) h1 h2];unfold namedOp at hn;rcases hn with hn | hn | hn | hn <;> simp [hn]
 ·unfold namedOp at hn;simp only [not_or] at hn;obtain ⟨n1, n2, n3, n4⟩ := hn;clear h;rcases mW x.op with h | h | h | h | h | h | h | h | h | h | h | h | h | h | h | h | h | h | h | h | h <;> first | exact absurd h n1 | exact absurd h n2 | exact absurd h n3 | exact absurd h n4 | simp [h]
theorem yW (m : PImage) (x : PInstr) (h : namedOp x → 0 ≤ x.a ∧ x.a < m.codes.length) (ha : 0 ≤ x.a ∧ x.a ≤ 4000) : eF m x = some (effectOf m x) := by
 unfold eF effectOf;rw [j5 (by omega), j5 (by omega)];by_cases hn : namedOp x
 ·obtain ⟨h1, h2⟩ := h hn;rw [cQ (d := default) h1 h2];unfold namedOp at hn;rcases hn with hn | hn | hn | hn <;> simp [hn]
 ·unfold namedOp at hn;simp only [not_or] at hn;obtain ⟨n1, n2, n3, n4⟩ := hn;clear h;rcases mW x.op with h | h | h | h | h | h | h | h | h | h | h | h | h | h | h | h | h | h | h | h | h <;> first | exact absurd h n1 | exact absurd h n2 | exact absurd h n3 | exact absurd h n4 | simp [h]
theorem s_prims : X4 = R4 := rfl
theorem aa0 : ∃ l, R4 = some l ∧ (l.length : Int) = 14 := ⟨_, rfl, rfl⟩
theorem yO (m : PImage) (c : PCode) (k : Int) (x : PInstr) (ha : 0 ≤ x.a) (hk : k ≤ m.codes.length) : dP m c k x = some (fitsOf false m c k x) := by
 obtain ⟨l, hl, hl2⟩ := aa0;unfold dP R9 fitsOf;rw [hl];simp only [f7, hl2];by_cases hx : x.a < k
 ·rw [cQ (d := default) ha (by omega)];simp only [f7, hx, if_true, decide_true, Bool.true_and];clear hl hl2;by_cases h9 : c.params ≤ x.a <;> rcases mW x.op with h | h | h | h | h | h | h | h | h | h | h | h | h | h | h | h | h | h | h | h | h <;> simp [h, h9]
 ·simp only [hx, if_false, decide_false, Bool.false_and];clear hl hl2;by_cases h9 : c.params ≤ x.a <;> rcases mW x.op with h | h | h | h | h | h | h | h | h | h | h | h | h | h | h | h | h | h | h | h | h <;> simp [h, h9]
theorem s_l10Fits_eq (m : PImage) (k : Nat) (x : PInstr) (ha : 0 ≤ x.a) (hk : k < m.codes.length) (hs : 0 ≤ (m.codes.getD k default).slots ∧ (m.codes.getD k default).slots ≤ 500) : lK m k x = some (fitsOf true m (m.codes.getD k default) k x) := by
 obtain ⟨l, hl, hl2⟩ := aa0;unfold lK Y5 fitsOf;rw [X0 (d := default) hk, s_prims, hl];simp only [f7, hl2];generalize m.codes.getD k default = c at hs ⊢;rw [j5 (by omega), bU];simp only [f7];have e : inside x.a c.params (c.slots - 1) = (decide (c.params ≤ x.a) && decide (x.a < c.slots)) := by
  unfold inside; congr 1; exact decide_eq_decide.2 (by omega)
 rw [e];by_cases hx : x.a < k
 ·rw [cQ (d := default) ha (by omega)];simp only [f7, hx, if_true, decide_true, Bool.true_and];clear hl hl2;rcases mW x.op with h | h | h | h | h | h | h | h | h | h | h | h | h | h | h | h | h | h | h | h | h <;> simp [h]
 ·simp only [hx, if_false, decide_false, Bool.false_and];clear hl hl2;rcases mW x.op with h | h | h | h | h | h | h | h | h | h | h | h | h | h | h | h | h | h | h | h | h <;> simp [h]
theorem i_codeOk_eq (m : PImage) (k : Nat) (hm : m.small) (hk : k < m.codes.length) : pQ m k = some (codeOKs false m k) := by
 have hc := hm.2 _ (ac6 (d := default) hk);unfold pQ;rw [X0 (d := default) hk, codeOK_c];simp only [f7];generalize m.codes.getD k default = c at hc ⊢;unfold codeOKc headOK inside;have hL : itr (oA m k c) LF 0 = some (c.instrs.all fun x => instrOK x && fitsOf false m c k x) := by
  rw [oD c.instrs (fun x => instrOK x && fitsOf false m c k x) (some true) (some false) (by have := hc.1; omega) (fun go i hi => ?_) (fun go => ?_)]
  ·cases (c.instrs.all fun x => instrOK x && fitsOf false m c k x) <;> rfl
  ·show T7 m k c go i = _;unfold T7;have := hc.1;rw [if_pos (by omega), o9 hi, f7, sY _ (hc.2 _ (List.getElem_mem hi)), f7];cases h1 : instrOK c.instrs[i]
   ·rfl
   ·rw [yO m c k _ (pU h1).1 (by omega), f7, if_pos rfl, j5 (by omega), Bool.true_and]
  ·show T7 m k c go _ = _;unfold T7;rw [if_neg (by omega)]
 rw [hL];by_cases h1 : c.params < 0
 ·have : decide (0 ≤ c.params) = false := by simp; omega
  simp [h1, this]
 ·have h1' : decide (0 ≤ c.params) = true := by simp; omega
  by_cases h2 : c.params > 8
  ·have : decide (c.params ≤ 8) = false := by simp; omega
   simp [h1, h2, this]
  ·have h2' : decide (c.params ≤ 8) = true := by simp; omega
   by_cases h3 : c.slots < c.params
   ·have : decide (c.params ≤ c.slots) = false := by simp; omega
    simp [h1, h2, h3, this]
   ·have h3' : decide (c.params ≤ c.slots) = true := by simp; omega
    by_cases h4 : c.slots > 500
    ·have : decide (c.slots ≤ 500) = false := by simp; omega
     simp [h1, h2, h3, h4, this]
    ·have h4' : decide (c.slots ≤ 500) = true := by simp; omega
     by_cases h5 : c.captures < 0
     ·have : decide (0 ≤ c.captures) = false := by simp; omega
      simp [h1, h2, h3, h4, h5, this]
     ·have h5' : decide (0 ≤ c.captures) = true := by simp; omega
      by_cases h6 : c.captures > 500
      ·have : decide (c.captures ≤ 500) = false := by simp; omega
       simp [h1, h2, h3, h4, h5, h6, this]
      ·have h6' : decide (c.captures ≤ 500) = true := by simp; omega
       by_cases h7 : (c.instrs.length : Int) < 1
       ·have : decide (1 ≤ (c.instrs.length : Int)) = false := by simp; omega
        simp [h1, h2, h3, h4, h5, h6, h7, this]
       ·have h7' : decide (1 ≤ (c.instrs.length : Int)) = true := by simp; omega
        by_cases h8 : (c.instrs.length : Int) > 4000
        ·have : decide ((c.instrs.length : Int) ≤ 4000) = false := by simp; omega
         simp [h1, h2, h3, h4, h5, h6, h7, h8, this]
        ·have h8' : decide ((c.instrs.length : Int) ≤ 4000) = true := by simp; omega
         simp only [h1, h2, h3, h4, h5, h6, h7, h8, h1', h2', h3', h4', h5', h6', h7', h8', if_false, Bool.and_self, Bool.true_and]
theorem rW {c : PCode} (h : headOK c = true) : (0 ≤ c.slots ∧ c.slots ≤ 500) ∧ (0 ≤ c.captures ∧ c.captures ≤ 500) ∧ 1 ≤ c.instrs.length ∧ c.instrs.length ≤ 4000 := by
 unfold headOK inside at h;simp only [Bool.and_eq_true, decide_eq_true_eq] at h;omega
theorem s_l10Code_eq (m : PImage) (k : Nat) (hm : m.small) (hk : k < m.codes.length) : lJ m k = some (codeOKs true m k) := by
 have hc := hm.2 _ (ac6 (d := default) hk);unfold lJ;rw [X0 (d := default) hk, codeOK_c];simp only [f7, bU];have hf := fun x => s_l10Fits_eq m k x;generalize m.codes.getD k default = c at hc hf ⊢;unfold codeOKc headOK;cases h1 : inside c.params 0 8
 ·rfl
 cases h2 : inside c.slots c.params 500
 ·rfl
 cases h3 : inside c.captures 0 500
 ·rfl
 cases h4 : inside c.instrs.length 1 4000
 ·rfl
 have hh : headOK c = true := by unfold headOK; rw [h1, h2, h3, h4]; rfl
 simp only [if_true, Bool.true_and];rw [oD c.instrs (fun x => instrOK x && fitsOf true m c k x) (some true) (some false) (by have := hc.1; omega) (fun go i hi => ?_) (fun go => ?_)]
 ·cases (c.instrs.all fun x => instrOK x && fitsOf true m c k x) <;> rfl
 ·show Q3 m k c go i = _;unfold Q3;have := hc.1;rw [if_pos (by omega), o9 hi, f7, qP _ (hc.2 _ (List.getElem_mem hi)), f7];cases h5 : instrOK c.instrs[i]
  ·rfl
  ·rw [hf _ (pU h5).1 hk (rW hh).1, f7, if_pos rfl, j5 (by omega), Bool.true_and]
 ·show Q3 m k c go _ = _;unfold Q3;rw [if_neg (by omega)]
structure InsOK (m : PImage) (x : PInstr) : Prop where
 a : 0 ≤ x.a ∧ x.a ≤ 4000
 named : namedOp x → x.a < m.codes.length
 take : 0 ≤ (effectOf m x).1 ∧ (effectOf m x).1 ≤ 4001
theorem fits_named {s : Bool} {m : PImage} {c : PCode} {k : Int} {x : PInstr} (h : fitsOf s m c k x = true) (hn : namedOp x) : x.a < k := by
 unfold fitsOf at h;unfold namedOp at hn;rcases hn with hn | hn | hn | hn <;> simp [hn] at h <;> omega
theorem ad6 {m : PImage} {k : Nat} (hk : k < m.codes.length) (h : ∀ i, i ≤ k → codeOKs false m i = true) : ∀ x ∈ (m.codes.getD k default).instrs, InsOK m x := fun x hx => by
 have h0 := h k (Nat.le_refl _);unfold codeOKs at h0;simp only [Bool.and_eq_true, List.all_eq_true] at h0;have h1 := h0.2 x hx;have h2 := pU h1.1;have hn : namedOp x → x.a < k := fits_named h1.2;refine ⟨⟨h2.1, h2.2.1⟩, fun hq => by have := hn hq; omega, ?_⟩;unfold effectOf;repeat' split
 all_goals try (dsimp only; omega)
 rename_i hq;have hq' := hn hq;have h3 := h x.a.toNat (by omega);unfold codeOKs at h3;simp only [Bool.and_eq_true] at h3;have := (rW h3.1).2.1;dsimp only;omega
def putAll (i len v : Int) : LI → LI → Option (LI)
 | [], out => some out
 | k :: r, out => match putD i len v k out with | some o => putAll i len v r o | none => none
def dres : Option (LI) → LI × Bool
 | some o => (o, true)
 | none => ([], false)
def nextOf (i : Int) (x : PInstr) : LI := if x.op = 14 ∨ x.op = 13 then [] else if x.op = 15 then [x.a] else if x.op = 16 then [i + 1, x.a] else [i + 1]
theorem qC (i len v : Int) (x : PInstr) (out : LI) (h : x.op = 14 ∨ x.op = 13 → v = 0) : nextD i len v x out = putAll i len v (nextOf i x) out := by
 unfold nextD nextOf;split
 ·rename_i hx; rw [if_pos (h hx)]; rfl
 ·split
  ·simp only [putAll]; cases putD i len v x.a out <;> rfl
  ·split
   ·simp only [putAll];cases h1 : putD i len v (i + 1) out with
    | none => rfl
    | some o => simp only; cases putD i len v x.a o <;> rfl
   ·simp only [putAll]; cases putD i len v (i + 1) out <;> rfl
theorem gV {i len v k : Int} {out : LI} (h : k ≤ i ∨ len ≤ k ∨ (0 ≤ at0 out k ∧ ¬ at0 out k = v)) : putD i len v k out = none := if_pos h
theorem qL {i len v k : Int} {out : LI} (h : ¬ (k ≤ i ∨ len ≤ k ∨ (0 ≤ at0 out k ∧ ¬ at0 out k = v))) : putD i len v k out = some (out.set k.toNat v) := if_neg h
theorem ae4 {out : LI} {k : Int} (h : 0 ≤ k) (h2 : k < out.length) : nth out k = some (at0 out k) := cQ h h2
theorem i_next_eq (c : PCode) (i : Int) (go : Int × LI → Option (LI × Bool)) (tl : Int × Int) (d : Int) (next : LI) (hi : 0 ≤ i) (hn : next.length ≤ 1000) (out0 : LI) (h0 : out0.length = c.instrs.length) :
 itr (cP c i go tl d next) LF (0, out0) = match putAll i c.instrs.length ((d - tl.1) + tl.2) next out0 with | some o => G5 i go o | none => some ([], false) := by
 rw [K2 (L := cP c i go tl d next) next.length (fun _ o => o.length = c.instrs.length) (fun j o => match putAll i c.instrs.length ((d - tl.1) + tl.2) (next.drop j) o with | some o => G5 i go o | none => some ([], false)) (by omega) (fun go2 j o hj ho hgo => ?_) (fun go2 o ho => ?_) h0]
 ·rw [List.drop_zero]
 ·show L9 c i go tl d next go2 j o = _;unfold L9 J9;rw [if_pos (by omega), o9 hj, f7, List.drop_eq_getElem_cons hj];simp only [putAll];generalize next[j] = k;by_cases h1 : k ≤ i
  ·rw [if_pos h1, gV (.inl h1)]; rfl
  ·rw [if_neg h1];by_cases h2 : k ≥ c.instrs.length
   ·rw [if_pos h2, gV (.inr (.inl h2))]; rfl
   ·rw [if_neg h2, ae4 (by omega) (by omega), f7, f7, f7, j5 (by omega)];have hg := hgo (o.set k.toNat ((d - tl.1) + tl.2)) (by rw [List.length_set, ho]);by_cases h3 : at0 o k ≥ 0
    ·rw [if_pos h3];by_cases h4 : at0 o k = (d - tl.1) + tl.2
     ·rw [qL (by omega), h4, hg]; simp
     ·rw [gV (.inr (.inr ⟨h3, h4⟩))]; simp [h4]
    ·rw [if_neg h3, qL (by omega), hg]; simp
 ·show L9 c i go tl d next go2 _ o = _;unfold L9;rw [if_neg (by omega), List.drop_length]; rfl
theorem s_next_eq (c : PCode) (i : Int) (go : Int × LI → Option (LI × Bool)) (tl : Int × Int) (d : Int) (next : LI) (hi : 0 ≤ i) (hn : next.length ≤ 1000) (hv : I64 ((d - tl.1) + tl.2)) (out0 : LI) (h0 : out0.length = c.instrs.length) :
 itr (bE c i go tl d next) LF (0, out0) = match putAll i c.instrs.length ((d - tl.1) + tl.2) next out0 with | some o => E7 i go o | none => some ([], false) := by
 rw [K2 (L := bE c i go tl d next) next.length (fun _ o => o.length = c.instrs.length) (fun j o => match putAll i c.instrs.length ((d - tl.1) + tl.2) (next.drop j) o with | some o => E7 i go o | none => some ([], false)) (by omega) (fun go2 j o hj ho hgo => ?_) (fun go2 o ho => ?_) h0]
 ·rw [List.drop_zero]
 ·show J0 c i go tl d next go2 j o = _;unfold J0 I2;rw [if_pos (by omega), o9 hj, f7, List.drop_eq_getElem_cons hj];simp only [putAll];generalize next[j] = k;by_cases h1 : k ≤ i
  ·rw [if_pos h1, gV (.inl h1)]; rfl
  ·rw [if_neg h1];by_cases h2 : k ≥ c.instrs.length
   ·rw [if_pos h2, gV (.inr (.inl h2))]; rfl
   ·rw [if_neg h2, ae4 (by omega) (by omega), f7, f7, f7, j5 hv, j5 hv, j5 (by omega)];have hg := hgo (o.set k.toNat ((d - tl.1) + tl.2)) (by rw [List.length_set, ho]);by_cases h3 : at0 o k ≥ 0
    ·rw [if_pos h3];by_cases h4 : at0 o k = (d - tl.1) + tl.2
     ·rw [qL (by omega), h4, hg]; simp
     ·rw [gV (.inr (.inr ⟨h3, h4⟩))]; simp [h4]
    ·rw [if_neg h3, qL (by omega), hg]; simp
 ·show J0 c i go tl d next go2 _ o = _;unfold J0;rw [if_neg (by omega), List.drop_length]; rfl
def runK (m : PImage) (len : Int) (i : Nat) (xs : List PInstr) : Option (LI) → Option (LI)
 | some o => runD m len i xs o
 | none => none
theorem runD_cons (m : PImage) (len : Int) (i : Nat) (x : PInstr) (r : List PInstr) (out : LI) : runD m len i (x :: r) out = runK m len (i + 1) r (stepD m len i x out) := by
 rw [runD]; unfold runK; cases stepD m len i x out <;> rfl
theorem zX (i : Int) (x : PInstr) : (nextOf i x).length ≤ 2 := by
 unfold nextOf;repeat' split
 all_goals simp
theorem eff_ret {m : PImage} {x : PInstr} (h : x.op = 14 ∨ x.op = 13) : (effectOf m x).2 = 0 := by
 unfold effectOf;rcases h with h | h <;> simp [h]
theorem i_run_eq (m : PImage) (c : PCode) (hc : c.instrs.length ≤ 4000) (hx : ∀ x ∈ c.instrs, InsOK m x) (out0 : LI) (h0 : out0.length = c.instrs.length) (hs : small500 out0) :
 itr (cO m c) LF (0, out0) = some (dres (runD m c.instrs.length 0 c.instrs out0)) := by
 rw [K2 (L := cO m c) c.instrs.length (fun _ o => o.length = c.instrs.length ∧ small500 o) (fun i o => some (dres (runD m c.instrs.length i (c.instrs.drop i) o))) (by omega) (fun go i o hi ho hgo => ?_) (fun go o ho => ?_) ⟨h0, hs⟩]
 ·rw [List.drop_zero]
 ·show L8 m c go i o = _;unfold L8;have hX := hx _ (List.getElem_mem hi);have h5 := xS ho.2 (i : Int);have hep := zT m c.instrs[i];rw [if_pos (by omega), o9 hi, f7, ae4 (by omega) (by omega), f7, List.drop_eq_getElem_cons hi];rw [runD_cons];unfold stepD;have hJ : ∀ o', G5 i go o' = go ((i : Int) + 1, o') := fun o' => by unfold G5; rw [j5 (by omega)]
  rw [i_effect_eq m _ (fun hq => ⟨hX.a.1, hX.named hq⟩) hX.a, f7, f7, f7];have hr := @eff_ret m c.instrs[i];generalize c.instrs[i] = x at hX hep hr ⊢;have ht := hX.take;by_cases h1 : at0 o i < 0
  ·rw [if_pos h1, if_pos h1, hJ, hgo o ho]; rfl
  ·rw [if_neg h1, if_neg h1];by_cases h2 : (effectOf m x).1 > at0 o i
   ·rw [if_pos h2, if_pos h2]; rfl
   ·rw [if_neg h2, if_neg h2, j5 (by omega), j5 (by omega)];by_cases h3 : (at0 o i - (effectOf m x).1) + (effectOf m x).2 > 500
    ·rw [if_pos h3, if_pos h3]; rfl
    ·rw [if_neg h3, if_neg h3];have hnx : ∀ next : LI, next.length ≤ 2 → E4 c i o go (effectOf m x) (at0 o i) next = match putAll i c.instrs.length ((at0 o i - (effectOf m x).1) + (effectOf m x).2) next o with | some o' => go ((i : Int) + 1, o') | none => some ([], false) := fun next hl => by
      unfold E4;rw [i_next_eq c i go _ _ next (by omega) (by omega) o ho.1];cases putAll i c.instrs.length ((at0 o i - (effectOf m x).1) + (effectOf m x).2) next o with
      | none => rfl
      | some o' => exact hJ o'
     have hfin : (x.op = 14 ∨ x.op = 13 → (at0 o i - (effectOf m x).1) + (effectOf m x).2 = 0) → E4 c i o go (effectOf m x) (at0 o i) (nextOf i x) = some (dres (runK m c.instrs.length (i + 1) (c.instrs.drop (i + 1)) (nextD i c.instrs.length ((at0 o i - (effectOf m x).1) + (effectOf m x).2) x o))) := fun hv => by
      rw [hnx _ (zX _ _), qC _ _ _ _ _ hv];cases hp : putAll i c.instrs.length ((at0 o i - (effectOf m x).1) + (effectOf m x).2) (nextOf i x) o with
      | none => rfl
      | some o' =>
       rw [← qC _ _ _ _ _ hv] at hp;show go ((i : Int) + 1, o') = some (dres (runD m c.instrs.length (i + 1) (c.instrs.drop (i + 1)) o'));rw [hgo o' ⟨by rw [nextD_len hp]; exact ho.1, wR ho.2 (by omega) hp⟩]
     unfold V1;by_cases h4 : x.op = 14 ∨ x.op = 13
     ·have e : nextOf i x = [] := by unfold nextOf; rw [if_pos h4]
      have : (if x.op = 14 then true else decide (x.op = 13)) = true := by rcases h4 with h4 | h4 <;> simp [h4]
      by_cases h5 : (at0 o i - (effectOf m x).1) + (effectOf m x).2 = 0
      ·have hq := hfin (fun _ => h5);rw [e] at hq;rcases h4 with h4 | h4
       ·simp only [h4, if_true, h5]; simp only [h4, h5] at hq; exact hq
       ·simp only [h4, if_true, h5]; simp only [h4, h5] at hq; simpa using hq
      ·have hn : nextD i c.instrs.length ((at0 o i - (effectOf m x).1) + (effectOf m x).2) x o = none := by unfold nextD; rw [if_pos h4, if_neg h5]
       rw [hn];rcases h4 with h4 | h4 <;> simp [h4, h5, dres, runK]
     ·have hq := hfin (fun h => absurd h h4);simp only [not_or] at h4;rw [if_neg h4.1, if_neg (by simp [h4.2])];unfold nextOf at hq;rw [if_neg (by simp [h4])] at hq;rw [← hq];by_cases h6 : x.op = 15
      ·rw [if_pos h6, if_pos h6]
      ·rw [if_neg h6, if_neg h6, j5 (by omega), j5 (by omega)];by_cases h7 : x.op = 16
       ·rw [if_pos h7, if_pos h7]
       ·rw [if_neg h7, if_neg h7]
 ·show L8 m c go _ o = _;unfold L8;rw [if_neg (by omega), List.drop_length]; rfl
end Go.Abs

namespace Go.Abs
theorem s_run_eq (m : PImage) (c : PCode) (hc : c.instrs.length ≤ 4000) (hx : ∀ x ∈ c.instrs, InsOK m x) (out0 : LI) (h0 : out0.length = c.instrs.length) (hs : small500 out0) :
 itr (bD m c) LF (0, out0) = some (dres (runD m c.instrs.length 0 c.instrs out0)) := by
 rw [K2 (L := bD m c) c.instrs.length (fun _ o => o.length = c.instrs.length ∧ small500 o) (fun i o => some (dres (runD m c.instrs.length i (c.instrs.drop i) o))) (by omega) (fun go i o hi ho hgo => ?_) (fun go o ho => ?_) ⟨h0, hs⟩]
 ·rw [List.drop_zero]
 ·show I9 m c go i o = _;unfold I9;have hX := hx _ (List.getElem_mem hi);have h5 := xS ho.2 (i : Int);have hep := zT m c.instrs[i];rw [if_pos (by omega), o9 hi, f7, ae4 (by omega) (by omega), f7, List.drop_eq_getElem_cons hi];rw [runD_cons];unfold stepD;have hJ : ∀ o', E7 i go o' = go ((i : Int) + 1, o') := fun o' => by unfold E7; rw [j5 (by omega)]
  rw [yW m _ (fun hq => ⟨hX.a.1, hX.named hq⟩) hX.a, f7, f7];have hr := @eff_ret m c.instrs[i];generalize c.instrs[i] = x at hX hep hr ⊢;have ht := hX.take;by_cases h1 : at0 o i < 0
  ·rw [if_pos h1, if_pos h1, hJ, hgo o ho]; rfl
  ·rw [if_neg h1, if_neg h1, j5 (by omega)];have hJ4 : w9 c i o go x (effectOf m x) (at0 o i) true = some ([], false) := rfl;by_cases h2 : (at0 o i - (effectOf m x).1) < 0
   ·rw [if_pos h2, if_pos (show at0 o i < (effectOf m x).1 by omega), hJ4]; rfl
   ·rw [if_neg h2, if_neg (show ¬ at0 o i < (effectOf m x).1 by omega), j5 (by omega)];by_cases h3 : (at0 o i - (effectOf m x).1) + (effectOf m x).2 > 500
    ·rw [if_pos h3, if_pos h3, hJ4]; rfl
    ·rw [if_neg h3, if_neg h3];have hnx : ∀ next : LI, next.length ≤ 2 → B2 c i o go (effectOf m x) (at0 o i) next = match putAll i c.instrs.length ((at0 o i - (effectOf m x).1) + (effectOf m x).2) next o with | some o' => go ((i : Int) + 1, o') | none => some ([], false) := fun next hl => by
      unfold B2;rw [s_next_eq c i go _ _ next (by omega) (by omega) ⟨by omega, by omega⟩ o ho.1];cases putAll i c.instrs.length ((at0 o i - (effectOf m x).1) + (effectOf m x).2) next o with
      | none => rfl
      | some o' => exact hJ o'
     have hfin : (x.op = 14 ∨ x.op = 13 → (at0 o i - (effectOf m x).1) + (effectOf m x).2 = 0) → B2 c i o go (effectOf m x) (at0 o i) (nextOf i x) = some (dres (runK m c.instrs.length (i + 1) (c.instrs.drop (i + 1)) (nextD i c.instrs.length ((at0 o i - (effectOf m x).1) + (effectOf m x).2) x o))) := fun hv => by
      rw [hnx _ (zX _ _), qC _ _ _ _ _ hv];cases hp : putAll i c.instrs.length ((at0 o i - (effectOf m x).1) + (effectOf m x).2) (nextOf i x) o with
      | none => rfl
      | some o' =>
       rw [← qC _ _ _ _ _ hv] at hp;show go ((i : Int) + 1, o') = some (dres (runD m c.instrs.length (i + 1) (c.instrs.drop (i + 1)) o'));rw [hgo o' ⟨by rw [nextD_len hp]; exact ho.1, wR ho.2 (by omega) hp⟩]
     have hf4 : w9 c i o go x (effectOf m x) (at0 o i) false = B2 c i o go (effectOf m x) (at0 o i) (nextOf i x) := by
      unfold w9 S7 nextOf;rw [j5 (by omega)];by_cases h14 : x.op = 14
      ·simp [h14]
      ·by_cases h13 : x.op = 13
       ·simp [h13]
       ·by_cases h15 : x.op = 15
        ·simp [h15]
        ·by_cases h16 : x.op = 16
         ·rw [j5 (by simp)]; simp [h16]
         ·rw [j5 (by simp)]; simp [h14, h13, h15, h16]
     by_cases h4 : x.op = 14 ∨ x.op = 13
     ·have hz := hr h4;by_cases h5' : (at0 o i - (effectOf m x).1) = 0
      ·have hq := hfin (fun _ => by omega);rcases h4 with h4 | h4
       ·have h13 : ¬ x.op = 13 := by omega
        rw [if_pos h4, if_pos h5', if_neg h13, hf4]; exact hq
       ·have h14 : ¬ x.op = 14 := by omega
        rw [if_neg h14, if_pos h4, h5'];simp only [decide_true, Bool.not_true];rw [← h5', hf4]; exact hq
      ·have hn : nextD i c.instrs.length ((at0 o i - (effectOf m x).1) + (effectOf m x).2) x o = none := by unfold nextD; rw [if_pos h4, if_neg (by omega)]
       rw [hn];rcases h4 with h4 | h4
       ·rw [if_pos h4, if_neg h5', hJ4]; rfl
       ·have h14 : ¬ x.op = 14 := by omega
        rw [if_neg h14, if_pos h4];simp only [h5', decide_false, Bool.not_false];rfl
     ·have hq := hfin (fun h => absurd h h4);simp only [not_or] at h4;rw [if_neg h4.1, if_neg h4.2, hf4]; exact hq
 ·show I9 m c go _ o = _;unfold I9;rw [if_neg (by omega), List.drop_length]; rfl
theorem fillM_0 (n : Nat) : fillM n 0 = List.replicate n 0 := by simp [fillM]
theorem xT (n : Nat) : small500 ((List.replicate n (-1)).set 0 0) := tL (fun v hv => by rw [List.eq_of_mem_replicate hv]; omega) ⟨by decide, by decide⟩ _
theorem ad3 (m : PImage) (k : Nat) (hk : k < m.codes.length) (h1 : 1 ≤ (m.codes.getD k default).instrs.length) (h2 : (m.codes.getD k default).instrs.length ≤ 4000) (hx : ∀ x ∈ (m.codes.getD k default).instrs, InsOK m x) :
 gO m k = some (dres (depthsOf m k)) := by
 unfold gO depthsOf;rw [X0 (d := default) hk, f7];generalize m.codes.getD k default = c at h1 h2 hx ⊢;rw [j5 (by omega), Int.toNat_natCast];rw [K2 (L := iW m c) c.instrs.length (fun i o => o = fillM c.instrs.length i) (fun _ _ => some (dres (runD m c.instrs.length 0 c.instrs ((List.replicate c.instrs.length (-1)).set 0 0)))) (by omega) (fun go i o hi ho hgo => ?_) (fun go o ho => ?_) (fillM_0 _).symm]
 ·show L7 m c go i o = _;unfold L7;subst ho;have hl := pE (n := c.instrs.length) (i := i) (by omega);rw [if_pos (by simp; omega), X0 (d := 0) (by omega), f7, j5 (by omega), Int.toNat_natCast, fillM_set hi, hgo _ rfl]
 ·show L7 m c go _ o = _;unfold L7;subst ho;have hl := pE (n := c.instrs.length) (i := c.instrs.length) (by omega);rw [if_neg (by simp), show (0 : Int) = ((0 : Nat) : Int) from rfl, X0 (d := 0) (by omega), f7, fillM_all];exact i_run_eq m c h2 hx _ (by simp) (xT _)
theorem yU (m : PImage) (k : Nat) (hk : k < m.codes.length) (h1 : 1 ≤ (m.codes.getD k default).instrs.length) (h2 : (m.codes.getD k default).instrs.length ≤ 4000) (hx : ∀ x ∈ (m.codes.getD k default).instrs, InsOK m x) :
 eE m k = some (dres (depthsOf m k)) := by
 unfold eE depthsOf;rw [X0 (d := default) hk, f7];generalize m.codes.getD k default = c at h1 h2 hx ⊢;rw [j5 (by omega), Int.toNat_natCast];rw [K2 (L := fT m c) c.instrs.length (fun i o => o = fillM c.instrs.length i) (fun _ _ => some (dres (runD m c.instrs.length 0 c.instrs ((List.replicate c.instrs.length (-1)).set 0 0)))) (by omega) (fun go i o hi ho hgo => ?_) (fun go o ho => ?_) (fillM_0 _).symm]
 ·show I8 m c go i o = _;unfold I8;subst ho;have hl := pE (n := c.instrs.length) (i := i) (by omega);rw [if_pos (by simp; omega), X0 (d := 0) (by omega), f7, j5 (by omega), Int.toNat_natCast, fillM_set hi, hgo _ rfl]
 ·show I8 m c go _ o = _;unfold I8;subst ho;have hl := pE (n := c.instrs.length) (i := c.instrs.length) (by omega);rw [if_neg (by simp), if_neg (by omega), show (0 : Int) = ((0 : Nat) : Int) from rfl, X0 (d := 0) (by omega), f7, fillM_all];exact s_run_eq m c h2 hx _ (by simp) (xT _)
theorem ab7 {s : Bool} {m : PImage} {k : Nat} (h : codeOKs s m k = true) : 1 ≤ (m.codes.getD k default).instrs.length ∧ (m.codes.getD k default).instrs.length ≤ 4000 := by
 unfold codeOKs at h;simp only [Bool.and_eq_true] at h;exact (rW h.1).2.2
def bumpI (t : LI) (x : PInstr) : LI := if namedOp x then t.set x.a.toNat (t.getD x.a.toNat 0 + 1) else t
def bumpIs (xs : List PInstr) (t : LI) : LI := xs.foldl bumpI t
def bumpCs (cs : List PCode) (t : LI) : LI := cs.foldl (fun t c => bumpIs c.instrs t) t
def totalOf (cs : List PCode) : Int := cs.foldl (fun n c => n + (c.instrs.length : Int)) 0
def codesOK (m : PImage) : Bool := (List.range m.codes.length).all fun k => codeOKs false m k && (depthsOf m k).isSome
def onceOK (m : PImage) : Bool := ((bumpCs m.codes (List.replicate m.codes.length 0)).take (m.codes.length - 1)).all fun n => decide (n = 1)
def isImg (m : PImage) (captures : Int) : Bool :=
 inside m.codes.length 1 1500 && (decide (m.main = (m.codes.length : Int) - 1) && (decide ((m.codes.getD (m.codes.length - 1) default).params = 0) && (decide ((m.codes.getD (m.codes.length - 1) default).captures = captures) &&
  (codesOK m && (decide (totalOf m.codes ≤ 16000) && onceOK m)))))
theorem vD (t : LI) (x : PInstr) : (bumpI t x).length = t.length := by unfold bumpI; split <;> simp
theorem rR : ∀ (xs : List PInstr) (t : LI), (bumpIs xs t).length = t.length
 | [], t => rfl
 | x :: xs, t => by show (bumpIs xs (bumpI t x)).length = _; rw [rR xs, vD]
def low (b : Int) (t : LI) : Prop := ∀ v ∈ t, 0 ≤ v ∧ v ≤ b
theorem low_get {b : Int} {t : LI} (h : low b t) (hb : 0 ≤ b) (i : Nat) : 0 ≤ t.getD i 0 ∧ t.getD i 0 ≤ b := by
 by_cases hi : i < t.length
 ·rw [List.getD, List.getElem?_eq_getElem hi]; exact h _ (List.getElem_mem hi)
 ·rw [List.getD, List.getElem?_eq_none (by omega)]; simp; exact hb
theorem vE {b : Int} {t : LI} (h : low b t) (hb : 0 ≤ b) (x : PInstr) : low (b + 1) (bumpI t x) := by
 unfold bumpI;split
 ·intro v hv;have hg := low_get h hb x.a.toNat;rcases List.mem_or_eq_of_mem_set hv with hv | rfl
  ·have := h v hv; omega
  ·omega
 ·intro v hv; have := h v hv; omega
theorem namesCode_eq (op : Int) : dM op = some (decide (op = 11 ∨ op = 18 ∨ op = 19 ∨ op = 20)) := by
 unfold dM;by_cases h1 : op = 11 <;> by_cases h2 : op = 18 <;> by_cases h3 : op = 19 <;> simp [h1, h2, h3]
theorem l10Inside_eq (op : Int) : eG op = some (decide (op = 11 ∨ op = 18 ∨ op = 19 ∨ op = 20)) := by
 unfold eG;by_cases h1 : op = 11 <;> by_cases h2 : op = 18 <;> by_cases h3 : op = 19 <;> simp [h1, h2, h3]
def InsOK' (n : Nat) (x : PInstr) : Prop := namedOp x → 0 ≤ x.a ∧ x.a < n
theorem i_count_eq (total x6 : Int) (go8 : Int × Int × LI → Option Bool) (c : PCode) (n : Nat) (b : Int) (hb : 0 ≤ b ∧ b ≤ 1000000000) (hx6 : 0 ≤ x6 ∧ x6 ≤ 2000) (hc : c.instrs.length ≤ 4000) (hx : ∀ x ∈ c.instrs, InsOK' n x) (t : LI) (ht : t.length = n) (hlow : low b t) :
 itr (fA total x6 go8 c) LF (0, t) = go8 (total + (c.instrs.length : Int), x6 + 1, bumpIs c.instrs t) := by
 rw [K2 (L := fA total x6 go8 c) c.instrs.length (fun i t => t.length = n ∧ low (b + i) t) (fun i t => go8 (total + (c.instrs.length : Int), x6 + 1, bumpIs (c.instrs.drop i) t)) (by omega) (fun go i t hi ht hgo => ?_) (fun go t ht => ?_) ⟨ht, by simpa using hlow⟩]
 ·rw [List.drop_zero]
 ·show P5 total x6 go8 c go i t = _;unfold P5 Y2;have hX := hx _ (List.getElem_mem hi);rw [if_pos (by omega), o9 hi, f7, namesCode_eq, f7, j5 (by omega), List.drop_eq_getElem_cons hi];show _ = go8 (total + (c.instrs.length : Int), x6 + 1, bumpIs (c.instrs.drop (i + 1)) (bumpI t c.instrs[i]));have hl := vE ht.2 (by omega) c.instrs[i];have hll := vD t c.instrs[i];have hg := hgo (bumpI t c.instrs[i]) ⟨by rw [hll, ht.1], by rw [show b + ((i + 1 : Nat) : Int) = b + i + 1 by omega]; exact hl⟩;rw [← hg];clear hg hl hll hgo;generalize c.instrs[i] = x at hX ⊢;unfold bumpI;by_cases hn : namedOp x
  ·have ha := hX hn;have hv := low_get ht.2 (by omega) x.a.toNat;have hn' : decide (x.op = 11 ∨ x.op = 18 ∨ x.op = 19 ∨ x.op = 20) = true := decide_eq_true hn;rw [hn', if_pos rfl, if_pos hn, cQ (d := 0) ha.1 (by omega), f7, f7, j5 (by omega), j5 (by omega)]
  ·have hn' : decide (x.op = 11 ∨ x.op = 18 ∨ x.op = 19 ∨ x.op = 20) = false := decide_eq_false hn;rw [hn', if_neg hn];simp
 ·show P5 total x6 go8 c go _ t = _;unfold P5;rw [if_neg (by omega), j5 (by omega), List.drop_length]; rfl
theorem s_count_eq (x2 : Int) (go4 : Int × LI → Option Bool) (c : PCode) (n : Nat) (b : Int) (hb : 0 ≤ b ∧ b ≤ 1000000000) (hx2 : 0 ≤ x2 ∧ x2 ≤ 2000) (hc : c.instrs.length ≤ 4000) (hx : ∀ x ∈ c.instrs, InsOK' n x) (t : LI) (ht : t.length = n) (hlow : low b t) :
 itr (fI x2 go4 c) LF (0, t) = go4 (x2 + 1, bumpIs c.instrs t) := by
 rw [K2 (L := fI x2 go4 c) c.instrs.length (fun i t => t.length = n ∧ low (b + i) t) (fun i t => go4 (x2 + 1, bumpIs (c.instrs.drop i) t)) (by omega) (fun go i t hi ht hgo => ?_) (fun go t ht => ?_) ⟨ht, by simpa using hlow⟩]
 ·rw [List.drop_zero]
 ·show Q8 x2 go4 c go i t = _;unfold Q8 Y8;have hX := hx _ (List.getElem_mem hi);rw [if_pos (by omega), o9 hi, f7, l10Inside_eq, f7, j5 (by omega), List.drop_eq_getElem_cons hi];show _ = go4 (x2 + 1, bumpIs (c.instrs.drop (i + 1)) (bumpI t c.instrs[i]));have hl := vE ht.2 (by omega) c.instrs[i];have hll := vD t c.instrs[i];have hg := hgo (bumpI t c.instrs[i]) ⟨by rw [hll, ht.1], by rw [show b + ((i + 1 : Nat) : Int) = b + i + 1 by omega]; exact hl⟩;rw [← hg];clear hg hl hll hgo;generalize c.instrs[i] = x at hX ⊢;unfold bumpI;by_cases hn : namedOp x
  ·have ha := hX hn;have hv := low_get ht.2 (by omega) x.a.toNat;have hn' : decide (x.op = 11 ∨ x.op = 18 ∨ x.op = 19 ∨ x.op = 20) = true := decide_eq_true hn;rw [hn', if_pos rfl, if_pos hn, cQ (d := 0) ha.1 (by omega), f7, f7, j5 (by omega), j5 (by omega)]
  ·have hn' : decide (x.op = 11 ∨ x.op = 18 ∨ x.op = 19 ∨ x.op = 20) = false := decide_eq_false hn;rw [hn', if_neg hn];simp
 ·show Q8 x2 go4 c go _ t = _;unfold Q8;rw [if_neg (by omega), j5 (by omega), List.drop_length]; rfl
end Go.Abs

namespace Go.Abs
def okOne (m : PImage) (k : Nat) : Bool := codeOKs false m k && (depthsOf m k).isSome
def okFrom (m : PImage) (k : Nat) : Bool := (List.range' k (m.codes.length - k)).all (okOne m)
theorem okFrom_0 (m : PImage) : okFrom m 0 = codesOK m := by unfold okFrom codesOK; rw [List.range_eq_range']; rfl
theorem wU {m : PImage} {k : Nat} (h : k < m.codes.length) : okFrom m k = (okOne m k && okFrom m (k + 1)) := by
 unfold okFrom;rw [show m.codes.length - k = (m.codes.length - (k + 1)) + 1 by omega, List.range'_succ, List.all_cons]
theorem zZ (m : PImage) : okFrom m m.codes.length = true := by unfold okFrom; simp
def addT (n : Int) (cs : List PCode) : Int := cs.foldl (fun n c => n + (c.instrs.length : Int)) n
theorem rS : ∀ (xs : List PInstr) {b : Int} {t : LI}, low b t → 0 ≤ b → low (b + xs.length) (bumpIs xs t)
 | [], b, t, h, _ => by simpa [bumpIs] using h
 | x :: xs, b, t, h, hb => by
  have h1 := rS xs (vE h hb x) (by omega);show low _ (bumpIs xs (bumpI t x));rw [show b + ((x :: xs).length : Int) = b + 1 + (xs.length : Int) by simp; omega];exact h1
theorem insOK'_of {m : PImage} {c : PCode} (h : ∀ x ∈ c.instrs, InsOK m x) : ∀ x ∈ c.instrs, InsOK' m.codes.length x := fun x hx hn => ⟨(h x hx).a.1, (h x hx).named hn⟩
theorem low_mono {b b' : Int} {t : LI} (h : low b t) (hb : b ≤ b') : low b' t := fun v hv => by have := h v hv; omega
theorem low_zero (n : Nat) : low 0 (List.replicate n 0) := fun v hv => by rw [List.eq_of_mem_replicate hv]; omega
theorem dres_snd (o : Option (LI)) : (dres o).2 = o.isSome := by cases o <;> rfl
def imgRest (m : PImage) (total : Int) (k : Nat) (t : LI) : Bool :=
 okFrom m k && (((bumpCs (m.codes.drop k) t).take (m.codes.length - 1)).all (fun n => decide (n = 1)) && decide (addT total (m.codes.drop k) ≤ 16000))
theorem i_loop_eq (m : PImage) (hm : m.small) (hn : 1 ≤ m.codes.length ∧ m.codes.length ≤ 1500) : itr (kO m) LF (0, 0, List.replicate m.codes.length 0) = some (imgRest m 0 0 (List.replicate m.codes.length 0)) := by
 refine kW (fun v : Int × Int × LI => some (imgRest m v.1 v.2.1.toNat v.2.2)) (fun v => (0 ≤ v.2.1 ∧ v.2.1 ≤ m.codes.length) ∧ (∀ i : Nat, (i : Int) < v.2.1 → codeOKs false m i = true) ∧ (0 ≤ v.1 ∧ v.1 ≤ 4000 * v.2.1) ∧ v.2.2.length = m.codes.length ∧ low (4000 * v.2.1) v.2.2) (fun v => m.codes.length - v.2.1.toNat) (fun go v hv hgo => ?_) (0, 0, List.replicate m.codes.length 0) ⟨⟨by simp, by simp⟩, fun i hi => by dsimp only at hi; omega, ⟨by simp, by simp⟩, by simp, by simpa using low_zero _⟩ (by simp; omega);obtain ⟨total, k0, t⟩ := v;obtain ⟨⟨hk0, hk1⟩, hok, ht, hl, hlow⟩ := hv;dsimp only at hk0 hk1 hok ht hl hlow ⊢;obtain ⟨k, rfl⟩ := Int.eq_ofNat_of_zero_le hk0;rw [Int.toNat_natCast];show Z9 m go total k t = _;unfold Z9;by_cases hk : (k : Int) < m.codes.length
 ·have hkn : k < m.codes.length := by omega
  have hcs := hm.2 _ (ac6 (d := default) hkn);have hdrop : m.codes.drop k = m.codes.getD k default :: m.codes.drop (k + 1) := vN hkn;rw [if_pos hk, X0 (d := default) hkn, f7, i_codeOk_eq m k hm hkn, f7];unfold imgRest;rw [wU hkn];unfold okOne;cases hc : codeOKs false m k
  ·rw [if_neg (by simp)]; simp
  ·have hall : ∀ i, i ≤ k → codeOKs false m i = true := fun i hi => by
    by_cases e : i = k
    ·subst e; exact hc
    ·exact hok i (by omega)
   have hlen := ab7 hc;have hins := ad6 hkn hall;rw [if_pos rfl, ad3 m k hkn hlen.1 hlen.2 hins, f7, dres_snd];cases hd : (depthsOf m k).isSome
   ·rw [if_neg (by simp)]; simp
   ·rw [if_pos rfl, j5 (by omega), hdrop];rw [i_count_eq total k go (m.codes.getD k default) m.codes.length (4000 * k) (by omega) (by omega) hlen.2 (insOK'_of hins) t hl hlow];have hb := rS (m.codes.getD k default).instrs hlow (by omega);rw [hgo (total + ((m.codes.getD k default).instrs.length : Int), (k : Int) + 1, bumpIs (m.codes.getD k default).instrs t)
     ⟨⟨by dsimp only; omega, by dsimp only; omega⟩, fun i hi => hall i (by dsimp only at hi; omega), ⟨by dsimp only; omega, by dsimp only; omega⟩, by dsimp only; rw [rR]; exact hl, low_mono hb (by dsimp only; omega)⟩ (by dsimp only; omega)]
    dsimp only;rw [show ((k : Int) + 1).toNat = k + 1 by omega];unfold imgRest;simp only [Bool.true_and];rfl
 ·have hkn : k = m.codes.length := by omega
  subst hkn;rw [if_neg hk, j5 (by omega), j5 (by omega)];unfold imgRest;rw [zZ, List.drop_length, Bool.true_and];have e : ((m.codes.length : Int) - 1).toNat = m.codes.length - 1 := by omega
  show itr (fB m total t) LF 0 = some (((t.take (m.codes.length - 1)).all fun n => decide (n = 1)) && decide (total ≤ 16000));rw [oD (L := fB m total t) (t.take (m.codes.length - 1)) (fun n => decide (n = 1)) (some (decide (total ≤ 16000))) (some false) (by simp; omega) (fun go i hi => ?_) (fun go => ?_)]
  ·cases ((t.take (m.codes.length - 1)).all fun n => decide (n = 1)) <;> simp
  ·show P6 m total t go i = _;unfold P6;have hi' := hi;rw [List.length_take] at hi';rw [e, if_pos (by rw [List.length_take]; omega), o9 hi, f7, j5 (by omega)];by_cases h1 : (t.take (m.codes.length - 1))[i] = 1 <;> simp [h1]
  ·show P6 m total t go _ = _;unfold P6;rw [e, if_neg (by omega)]
theorem sV (m : PImage) (hm : m.small) (captures : Int) : gL m captures = some (isImg m captures) := by
 unfold gL isImg inside;by_cases h1 : (m.codes.length : Int) < 1
 ·have : decide (1 ≤ (m.codes.length : Int)) = false := by simp; omega
  rw [if_pos h1, this]; rfl
 ·have h1' : decide (1 ≤ (m.codes.length : Int)) = true := by simp; omega
  by_cases h2 : (m.codes.length : Int) > 1500
  ·have : decide ((m.codes.length : Int) ≤ 1500) = false := by simp; omega
   rw [if_neg h1, if_pos h2, h1', this]; rfl
  ·have h2' : decide ((m.codes.length : Int) ≤ 1500) = true := by simp; omega
   rw [if_neg h1, if_neg h2, h1', h2', j5 (by omega), j5 (by omega), j5 (by omega)];rw [cQ (d := default) (by omega) (by omega), f7, f7, j5 (by omega), show ((m.codes.length : Int) - 1).toNat = m.codes.length - 1 by omega, Int.toNat_natCast, i_loop_eq m hm (by omega)];by_cases h3 : m.main = (m.codes.length : Int) - 1
   ·rw [if_pos h3];by_cases h4 : (m.codes.getD (m.codes.length - 1) default).params = 0
    ·rw [if_pos h4];by_cases h5 : (m.codes.getD (m.codes.length - 1) default).captures = captures
     ·rw [if_pos h5];unfold imgRest;rw [okFrom_0, List.drop_zero];simp only [h3, h4, h5, decide_true, Bool.true_and];congr 2;exact Bool.and_comm _ _
     ·rw [if_neg h5]; simp only [h5, decide_false, Bool.and_false, Bool.false_and]
    ·rw [if_neg h4]; simp only [h4, decide_false, Bool.and_false, Bool.false_and]
   ·rw [if_neg h3]; simp only [h3, decide_false, Bool.and_false, Bool.false_and]
theorem s_tree_eq (m : PImage) (hm : m.small) (hn : 1 ≤ m.codes.length ∧ m.codes.length ≤ 1500) (hmain : m.main = (m.codes.length : Int) - 1) (hall : ∀ i, i < m.codes.length → codeOKs false m i = true) : lN m = some (onceOK m) := by
 unfold lN;rw [j5 (by omega), Int.toNat_natCast];unfold onceOK;rw [K2 (L := lO m) m.codes.length (fun k t => t.length = m.codes.length ∧ low (4000 * k) t) (fun k t => some (((bumpCs (m.codes.drop k) t).take (m.codes.length - 1)).all fun n => decide (n = 1))) (by omega) (fun go k t hk ht hgo => ?_) (fun go t ht => ?_) ⟨by simp, by simpa using low_zero _⟩]
 ·rw [List.drop_zero]
 ·show Q7 m go k t = _;unfold Q7;have hdrop : m.codes.drop k = m.codes.getD k default :: m.codes.drop (k + 1) := vN hk;have hlen := ab7 (hall k hk);have hins := ad6 hk (fun i hi => hall i (by omega));rw [if_pos (by omega), X0 (d := default) hk, f7, s_count_eq k go (m.codes.getD k default) m.codes.length (4000 * k) (by omega) (by omega) hlen.2 (insOK'_of hins) t ht.1 ht.2, hdrop];have hb := rS (m.codes.getD k default).instrs ht.2 (by omega);rw [hgo _ ⟨by rw [rR]; exact ht.1, low_mono hb (by omega)⟩];rfl
 ·show Q7 m go _ t = _;unfold Q7;rw [if_neg (by omega), List.drop_length];show itr (fJ m t) LF 0 = some ((t.take (m.codes.length - 1)).all fun n => decide (n = 1));rw [fQ (L := fJ m t) t.length (fun i => some (((t.take (m.codes.length - 1)).drop i).all fun n => decide (n = 1))) (by omega) (fun go i hi hgo => ?_) (fun go => ?_)]
  ·rw [List.drop_zero]
  ·show Q9 m t go i = _;unfold Q9 Y9;rw [if_pos (by omega), o9 hi, f7, j5 (by omega)];by_cases h1 : t[i] = 1
   ·rw [if_pos h1, if_neg (by simp), hgo];by_cases h2 : i < m.codes.length - 1
    ·have hi2 : i < (t.take (m.codes.length - 1)).length := by rw [List.length_take]; omega
     rw [List.drop_eq_getElem_cons hi2, List.all_cons];simp [h1]
    ·rw [List.drop_eq_nil_of_le (by rw [List.length_take]; omega), List.drop_eq_nil_of_le (by rw [List.length_take]; omega)]
   ·rw [if_neg h1];by_cases h2 : (i : Int) = m.main
    ·simp only [h2, decide_true, Bool.not_true, Bool.false_eq_true, if_false];rw [← h2, hgo, List.drop_eq_nil_of_le (by rw [List.length_take]; omega), List.drop_eq_nil_of_le (by rw [List.length_take]; omega)]
    ·simp only [h2, decide_false, Bool.not_false, if_true];have hi2 : i < (t.take (m.codes.length - 1)).length := by rw [List.length_take]; omega
     rw [List.drop_eq_getElem_cons hi2, List.all_cons];simp [h1]
  ·show Q9 m t go _ = _;unfold Q9;rw [if_neg (by omega), List.drop_eq_nil_of_le (by rw [List.length_take]; omega)];rfl
def sRest (m : PImage) (total : Int) (k : Nat) : Bool := okFrom m k && (decide (addT total (m.codes.drop k) ≤ 16000) && onceOK m)
theorem s_loop_eq (m : PImage) (hm : m.small) (hn : 1 ≤ m.codes.length ∧ m.codes.length ≤ 1500) (hmain : m.main = (m.codes.length : Int) - 1) : itr (lI m) LF (0, 0) = some (sRest m 0 0) := by
 refine kW (fun v : Int × Int => some (sRest m v.1 v.2.toNat)) (fun v => (0 ≤ v.2 ∧ v.2 ≤ m.codes.length) ∧ (∀ i : Nat, (i : Int) < v.2 → codeOKs false m i = true) ∧ (0 ≤ v.1 ∧ v.1 ≤ 4000 * v.2)) (fun v => m.codes.length - v.2.toNat) (fun go v hv hgo => ?_) (0, 0) ⟨⟨by simp, by simp⟩, fun i hi => by dsimp only at hi; omega, by simp, by simp⟩ (by simp; omega);obtain ⟨total, k0⟩ := v;obtain ⟨⟨hk0, hk1⟩, hok, ht⟩ := hv;dsimp only at hk0 hk1 hok ht ⊢;obtain ⟨k, rfl⟩ := Int.eq_ofNat_of_zero_le hk0;rw [Int.toNat_natCast];show aF m go total k = _;unfold aF;by_cases hk : (k : Int) < m.codes.length
 ·have hkn : k < m.codes.length := by omega
  have hdrop : m.codes.drop k = m.codes.getD k default :: m.codes.drop (k + 1) := vN hkn;rw [if_pos hk, s_l10Code_eq m k hm hkn, f7, codeOK_same (fun i hi => hok i (by omega)), X0 (d := default) hkn];unfold sRest;rw [wU hkn];unfold okOne;cases hc : codeOKs false m k
  ·rw [if_neg (by simp)]; simp
  ·have hall : ∀ i, i ≤ k → codeOKs false m i = true := fun i hi => by
    by_cases e : i = k
    ·subst e; exact hc
    ·exact hok i (by omega)
   have hlen := ab7 hc;have hins := ad6 hkn hall;rw [if_pos rfl, yU m k hkn hlen.1 hlen.2 hins, f7, dres_snd];cases hd : (depthsOf m k).isSome
   ·rw [if_neg (by simp)]; simp
   ·rw [if_pos rfl, f7, j5 (by omega), j5 (by omega), hdrop];rw [hgo (total + ((m.codes.getD k default).instrs.length : Int), (k : Int) + 1) ⟨⟨by dsimp only; omega, by dsimp only; omega⟩, fun i hi => hall i (by dsimp only at hi; omega), by dsimp only; omega, by dsimp only; omega⟩ (by dsimp only; omega)];dsimp only;rw [show ((k : Int) + 1).toNat = k + 1 by omega];unfold sRest;simp only [Bool.true_and];rfl
 ·have hkn : k = m.codes.length := by omega
  subst hkn;rw [if_neg hk];unfold sRest;rw [zZ, List.drop_length, Bool.true_and];show (if total ≤ 16000 then _ else _) = some (decide (total ≤ 16000) && onceOK m);by_cases h1 : total ≤ 16000
  ·rw [if_pos h1, s_tree_eq m hm hn hmain (fun i hi => hok i (by omega)), f7]; simp [h1]
  ·rw [if_neg h1]; simp [h1]
theorem s_IsImage_eq (m : PImage) (hm : m.small) (captures : Int) : lG m captures = some (isImg m captures) := by
 have hm1 := hm.1;unfold lG isImg;rw [bU, f7, j5 (by omega)];cases h1 : inside m.codes.length 1 1500
 ·rfl
 ·have h1' : 1 ≤ m.codes.length ∧ m.codes.length ≤ 1500 := by
   unfold inside at h1;simp only [Bool.and_eq_true, decide_eq_true_eq] at h1;omega
  rw [if_pos rfl];by_cases h3 : m.main = (m.codes.length : Int) - 1
  ·rw [if_pos h3, h3, cQ (d := default) (by omega) (by omega), f7, f7, show ((m.codes.length : Int) - 1).toNat = m.codes.length - 1 by omega, s_loop_eq m hm h1' h3];by_cases h4 : (m.codes.getD (m.codes.length - 1) default).params = 0
   ·rw [if_pos h4];by_cases h5 : (m.codes.getD (m.codes.length - 1) default).captures = captures
    ·rw [if_pos h5];unfold sRest;rw [okFrom_0, List.drop_zero];simp only [h4, h5, decide_true, Bool.true_and];rfl
    ·rw [if_neg h5]; simp only [h5, decide_false, Bool.and_false, Bool.false_and]
   ·rw [if_neg h4]; simp only [h4, decide_false, Bool.and_false, Bool.false_and]
  ·rw [if_neg h3]; simp only [h3, decide_false, Bool.and_false, Bool.false_and]
end Go.Abs

namespace Go.Abs
open PD
mutual
def wD : PD → Nat
 | .mk _ _ t is => t.length + wDs is
def wDs : List PD → Nat
 | [] => 0
 | d :: r => 1 + wD d + wDs r
end
theorem rI (d : PD) : wD d = d.text.length + wDs d.items := by cases d; rfl
theorem wDs_eq : ∀ ds : List PD, wDs ds = wts wD ds
 | [] => rfl
 | d :: r => by have := wDs_eq r; unfold wts at *; simp [wDs]; omega
theorem oX : ∀ {ds : List PD} {x : PD}, x ∈ ds → wD x < wDs ds
 | d :: r, x, h => by
  unfold wDs;rcases List.mem_cons.1 h with rfl | h
  ·omega
  ·have := oX h; omega
theorem zQ : (∀ d : PD, d.cnt ≤ wD d) ∧ ∀ ds : List PD, cnts ds ≤ wDs ds := by
 refine ind (fun ds h => ?_) (fun d h => ?_)
 ·induction ds with
  | nil => simp [cnts]
  | cons x r ih => have := h x (by simp); have := ih (fun y hy => h y (by simp [hy])); unfold cnts wDs; omega
 ·rw [cnt_eq, rI]; omega
theorem short_wD : (∀ d : PD, wD d ≤ 1048576 → d.short) ∧ ∀ ds : List PD, wDs ds ≤ 1048576 → shorts ds := by
 refine ind (fun ds h => ?_) (fun d h => ?_)
 ·induction ds with
  | nil => intro _; trivial
  | cons x r ih => intro hw; unfold wDs at hw; exact ⟨h x (by simp) (by omega), ih (fun y hy => h y (by simp [hy])) (by omega)⟩
 ·intro hw; rw [rI] at hw; exact (ag3 d).2 ⟨by omega, h (by omega)⟩
theorem uR {d : PD} (h : wD d ≤ 1048576) : d.small := ⟨short_wD.1 d h, by have := zQ.1 d; omega⟩
def rfOK (d : PD) : Prop := 2 * d.cnt + 1 < RF
theorem rfOK_small {d : PD} (h : d.small) : rfOK d := by unfold rfOK; rw [RF_eq]; have := h.2; omega
theorem w_eq_eq : ∀ n : Nat, (∀ d : PD, 2 * d.cnt + 1 < n → d.small → t7 n d d = some true) ∧ (∀ ds : List PD, 2 * cnts ds < n → cnts ds ≤ 1048576 → (∀ x ∈ ds, x.small) → A4 n ds ds = some true)
 | 0 => ⟨fun d h => by omega, fun ds h => by omega⟩
 | n + 1 => by
  have ih := w_eq_eq n;refine ⟨fun d h hs => ?_, fun ds h hl hw => ?_⟩
  ·show eO (t7 n) (A4 n) d d = _;unfold eO;have hc := cnt_eq d;rw [if_pos rfl, if_pos rfl, if_pos rfl, ih.2 d.items (by omega) (by have := hs.2; omega) (fun x hx => aa6 hs hx), f7, if_pos rfl]
  ·show bW (t7 n) (A4 n) ds ds = _;unfold bW;exact ac1 (L := jW (t7 n) ds ds) (E := t7 n) ds (by have := cnts_len ds; omega) (fun x hx => ih.1 x (by have := cnts_mem hx; omega) (hw x hx)) (fun go i => rfl)
theorem eqDatum_eq {d : PD} (h : d.small) : t7 RF d d = some true := (w_eq_eq RF).1 d (rfOK_small h) h
def wI (x : PInstr) : Nat := wD x.d
def wC (c : PCode) : Nat := wts wI c.instrs
def wM (m : PImage) : Nat := wts wC m.codes
theorem eqInstr_eq (x : PInstr) (h : x.d.small) : iI x x = some true := by unfold iI; rw [eqDatum_eq h]; simp
theorem eqCode_eq (c : PCode) (h : c.small) : nF c c = some true := by
 unfold nF nG;rw [ac1 (L := jX c.instrs c.instrs) (E := iI) c.instrs h.1 (fun x hx => eqInstr_eq x (h.2 x hx)) (fun go i => rfl)]; simp
theorem eqImage_eq (m : PImage) (h : m.small) : lW m m = some true := by
 unfold lW rJ;rw [ac1 (L := lV m.codes m.codes) (E := nF) m.codes h.1 (fun x hx => eqCode_eq x (h.2 x hx)) (fun go i => rfl)]; simp
end Go.Abs

namespace Go.Abs
open PD
theorem itr_ex {σ R : Type} {L : (σ → Option R) → σ → Option R} (Q : R → Prop) (P : σ → Prop) (μ : σ → Nat)
 (step : ∀ go v, P v → (∀ v', P v' → μ v' < μ v → ∃ r, go v' = some r ∧ Q r) → ∃ r, L go v = some r ∧ Q r) : ∀ n v, P v → μ v < n → ∃ r, itr L n v = some r ∧ Q r
 | 0, v, _, h => by omega
 | n + 1, v, hp, h => step (itr L n) v hp fun v' hp' hm => itr_ex Q P μ step n v' hp' (by omega)
theorem iY {σ R : Type} {L : (σ → Option R) → σ → Option R} (Q : R → Prop) (P : σ → Prop) (μ : σ → Nat)
 (step : ∀ go v, P v → (∀ v', P v' → μ v' < μ v → ∃ r, go v' = some r ∧ Q r) → ∃ r, L go v = some r ∧ Q r) (v : σ) (hp : P v) (h : μ v < 18446744073709551616) : ∃ r, itr L LF v = some r ∧ Q r := by
 rw [LF_eq]; exact itr_ex Q P μ step _ v hp h
theorem pY (k : Int) (h : k ≤ 4611686018427387904) : ∃ t, I3 k = some t := by
 unfold I3;by_cases h0 : k ≤ 0
 ·rw [if_pos h0]; exact ⟨_, rfl⟩
 ·rw [if_neg h0];have := iY (L := kB) (fun _ => True) (fun v => 0 ≤ v.1 ∧ v.1 + v.2.length ≤ 4611686018427387904) (fun v => v.1.toNat) (fun go v hv hgo => ?_) (k, []) ⟨by omega, by simpa using h⟩ (by omega)
  ·obtain ⟨t, h1, _⟩ := this; exact ⟨t, h1⟩
  ·obtain ⟨k, out⟩ := v;show ∃ r, W6 go k out = some r ∧ True;unfold W6;have h1 : 0 ≤ k := hv.1;have h2 : k + (out.length : Int) ≤ 4611686018427387904 := hv.2;by_cases hk : k > 0
   ·rw [if_pos hk, j5 (by omega), j5 (by omega), j5 (by omega), j5 (by simp; omega), j5 (by omega)];exact hgo _ ⟨by show 0 ≤ k / 10; omega, by simp; omega⟩ (by show (k / 10).toNat < k.toNat; omega)
   ·rw [if_neg hk, j5 (by simp; omega)];exact ⟨_, rfl, trivial⟩
theorem dY {α : Type} {l : List α} {i : Nat} {v : α} (h : i < l.length) : nth (l.set i v) (i : Int) = some v := by
 rw [o9 (by simpa using h)]; simp
theorem nL {α : Type} (wt : α → Nat) (x : α) (r : List α) : wts wt (x :: r) = 1 + wt x + wts wt r := by
 unfold wts; simp only [List.length_cons, List.map_cons, List.sum_cons]; omega
theorem qB (k n : Int) (t : LB) (is : List PD) : (PD.mk k n t is).items = is := rfl
theorem wO (k n : Int) (t : LB) (is : List PD) : (PD.mk k n t is).kind = k := rfl
theorem kX (k n : Int) (t : LB) (is : List PD) : (PD.mk k n t is).number = n := rfl
theorem wP (k n : Int) (t : LB) (is : List PD) : (PD.mk k n t is).text = t := rfl
end Go.Abs

namespace Go.Abs
open Go.Lib (decDigits itoa nDigits)
theorem nDig_le : ∀ (k u : Nat), u < 10 ^ (k + 1) → nDigits u ≤ k + 1
 | 0, u, h => by rw [Go.Lib.nDigits_small (by simpa using h)]; omega
 | k + 1, u, h => by
  by_cases hu : u < 10
  ·rw [Go.Lib.nDigits_small hu]; omega
  ·rw [Go.Lib.nDigits_big hu];have := nDig_le k (u / 10) (by rw [Nat.pow_succ] at h; omega);omega
theorem vJ (u : Nat) (h : u ≤ 999999999) : (decDigits u).length ≤ 9 := by
 rw [Go.Lib.decDigits_eq, List.length_map, List.length_range];exact nDig_le 8 u (by show u < 10 ^ 9; omega)
theorem kK {u : Nat} (h : u < 10) : decDigits u = [UInt8.ofNat (48 + u)] := by rw [decDigits, dif_pos h]
theorem ab8 {u : Nat} (h : ¬ u < 10) : decDigits u = decDigits (u / 10) ++ [UInt8.ofNat (48 + u % 10)] := by rw [decDigits, dif_neg h]
theorem D7 (n : Int) (h : -999999999 ≤ n ∧ n ≤ 999999999) : v8 n = some (itoa n) := by
 unfold v8;by_cases h0 : n = 0
 ·rw [if_pos h0, h0];unfold itoa;rw [if_neg (by omega), show (0 : Int).toNat = 0 from rfl, kK (by omega)];rfl
 rw [if_neg h0];have hT := vJ n.natAbs (by omega);have key := iY (L := aV n) (fun r => r = itoa n) (fun v => ((v.2 = 0 ∧ v.1 = decDigits n.natAbs) ∨ (v.2 ≠ 0 ∧ decDigits v.2.natAbs ++ v.1 = decDigits n.natAbs)) ∧ ((0 ≤ n ∧ 0 ≤ v.2 ∧ v.2 ≤ n) ∨ (n < 0 ∧ v.2 ≤ 0 ∧ n ≤ v.2))) (fun v => v.2.natAbs) (fun go v hv hgo => ?_) ([], n) ⟨.inr ⟨h0, by simp⟩, by show (0 ≤ n ∧ 0 ≤ n ∧ n ≤ n) ∨ (n < 0 ∧ n ≤ 0 ∧ n ≤ n); omega⟩ (by show n.natAbs < _; omega)
 ·obtain ⟨r, h1, h2⟩ := key; rw [h1, h2]
 ·obtain ⟨out, x⟩ := v;obtain ⟨h1, h2⟩ := hv;simp only at h1 h2;show ∃ r, K4 n go out x = some r ∧ _;unfold K4;by_cases hx : x = 0
  ·have ho : out = decDigits n.natAbs := by
    rcases h1 with h1 | h1
    ·exact h1.2
    ·exact absurd hx h1.1
   rw [if_pos hx];by_cases hn : n < 0
   ·rw [if_pos hn, j5 (by rw [ho]; simp; omega)];refine ⟨_, rfl, ?_⟩;unfold itoa;rw [if_pos hn, ho]; rfl
   ·rw [if_neg hn];refine ⟨_, rfl, ?_⟩;unfold itoa;rw [if_neg hn, ho, show n.natAbs = n.toNat by omega]
  ·have ho : decDigits x.natAbs ++ out = decDigits n.natAbs := by
    rcases h1 with h1 | h1
    ·exact absurd h1.1 hx
    ·exact h1.2
   have hol : out.length ≤ 9 := by
    have := congrArg List.length ho;rw [List.length_append] at this; omega
   have hx2 : -999999999 ≤ x ∧ x ≤ 999999999 := by omega
   obtain ⟨dg, q, e1, e2, e3, e4⟩ : ∃ dg q : Int, (Int.tmod x 10 = dg ∨ Int.tmod x 10 = -dg) ∧ dg = ((x.natAbs % 10 : Nat) : Int) ∧ Int.tdiv x 10 = q ∧ (q.natAbs = x.natAbs / 10 ∧ ((0 ≤ n ∧ 0 ≤ q ∧ q ≤ n ∧ Int.tmod x 10 = dg) ∨ (n < 0 ∧ q ≤ 0 ∧ n ≤ q ∧ Int.tmod x 10 = -dg))) := by
    rcases h2 with ⟨a1, a2, a3⟩ | ⟨a1, a2, a3⟩
    ·refine ⟨x % 10, x / 10, .inl (Int.tmod_eq_emod_of_nonneg a2), by omega, Int.tdiv_eq_ediv_of_nonneg a2, by omega, .inl ⟨a1, by omega, by omega, Int.tmod_eq_emod_of_nonneg a2⟩⟩
    ·have t1 : Int.tmod x 10 = -((-x) % 10) := by rw [← Int.tmod_eq_emod_of_nonneg (by omega : 0 ≤ -x), Int.neg_tmod, Int.neg_neg]
     have t2 : Int.tdiv x 10 = -((-x) / 10) := by rw [← Int.tdiv_eq_ediv_of_nonneg (by omega : 0 ≤ -x), Int.neg_tdiv, Int.neg_neg]
     exact ⟨(-x) % 10, -((-x) / 10), .inr t1, by omega, t2, by omega, .inr ⟨a1, by omega, by omega, t1⟩⟩
   have hd : 0 ≤ dg ∧ dg ≤ 9 := by omega
   have hJ : ∃ r, D6 out x go dg = some r ∧ r = itoa n := by
    unfold D6;rw [j5 (show -9223372036854775808 ≤ 48 + dg ∧ 48 + dg ≤ 9223372036854775807 by omega), j5 (by omega), j5 (by simp; omega), j5 (show (-9223372036854775808 ≤ x ∧ x ≤ 9223372036854775807) ∧ (0 : Int) < 10 by omega), e3];refine hgo (_, q) ⟨?_, by show (0 ≤ n ∧ 0 ≤ q ∧ q ≤ n) ∨ (n < 0 ∧ q ≤ 0 ∧ n ≤ q); omega⟩ (by show q.natAbs < x.natAbs; omega);show (q = 0 ∧ _) ∨ (q ≠ 0 ∧ _);have hdn : (48 + dg).toNat = 48 + x.natAbs % 10 := by omega
    rw [hdn];by_cases hs : x.natAbs < 10
    ·refine .inl ⟨by omega, ?_⟩;rw [← ho, kK hs, Nat.mod_eq_of_lt hs]
    ·refine .inr ⟨by omega, ?_⟩;rw [← ho, ab8 hs, e4.1, List.append_assoc]
   rw [if_neg hx, j5 (show (-9223372036854775808 ≤ x ∧ x ≤ 9223372036854775807) ∧ (0 : Int) < 10 by omega)];by_cases hneg : Int.tmod x 10 < 0
   ·have e : -(Int.tmod x 10) = dg := by omega
    rw [if_pos hneg, e, j5 (show -9223372036854775808 ≤ dg ∧ dg ≤ 9223372036854775807 by omega)];exact hJ
   ·have e : Int.tmod x 10 = dg := by omega
    rw [if_neg hneg, e];exact hJ
theorem N8 (n : Int) (h : -999999999 ≤ n ∧ n ≤ 999999999) : w8 n = some (itoa n) := by
 unfold w8 x_Itoa;rw [j5 (show -9223372036854775808 ≤ n ∧ n ≤ 9223372036854775807 by omega)]; rfl
theorem bC (n : Int) (h : -999999999 ≤ n ∧ n ≤ 999999999) : (itoa n).length ≤ 10 := by
 unfold itoa;split
 ·have := vJ n.natAbs (by omega); simp; omega
 ·have := vJ n.toNat (by omega); omega
end Go.Abs

namespace Go.Abs
open PD
open Go.Lib (itoa)
mutual
def fmtD : PD → LB
 | .mk k n t is => if k = 1 then t else if k = 2 then itoa n else if k = 3 then (if n = 1 then [35, 116] else [35, 102]) else if k = 4 then [34] ++ t ++ [34] else [40] ++ fmtDs true is ++ [41]
def fmtDs : Bool → List PD → LB
 | _, [] => []
 | first, d :: r => (if first then [] else [32]) ++ fmtD d ++ fmtDs false r
end
theorem fmtD_eq (d : PD) : fmtD d = if d.kind = 1 then d.text else if d.kind = 2 then itoa d.number else if d.kind = 3 then (if d.number = 1 then [35, 116] else [35, 102]) else if d.kind = 4 then [34] ++ d.text ++ [34] else [40] ++ fmtDs true d.items ++ [41] := by cases d; rw [fmtD]; rfl
theorem qG (d : PD) : d.okAll = (nodeOK d.kind d.number d.text d.items.length && okAlls d.items) := by cases d; rfl
theorem mV : ∀ {ds : List PD}, okAlls ds = true → ∀ x ∈ ds, x.okAll = true
 | d :: r, h, x, hx => by
  simp only [okAlls, Bool.and_eq_true] at h;rcases List.mem_cons.1 hx with rfl | hx
  ·exact h.1
  ·exact mV h.2 x hx
theorem uL {k n m : Int} {t : LB} (h : nodeOK k n t m = true) : (k = 2 → -999999999 ≤ n ∧ n ≤ 999999999) ∧ (k = 3 → n = 0 ∨ n = 1) := by
 unfold nodeOK inside at h;refine ⟨fun e => ?_, fun e => ?_⟩
 ·rw [if_neg (by omega), if_neg (by omega), if_pos e] at h;simp at h; omega
 ·rw [if_neg (by omega), if_neg (by omega), if_neg (by omega), if_pos e] at h;simp at h; omega
theorem ac5 : (∀ d : PD, d.okAll = true → (fmtD d).length ≤ 16 + 17 * wD d) ∧ ∀ ds : List PD, okAlls ds = true → ∀ b, (fmtDs b ds).length ≤ 17 * wDs ds := by
 refine ind (fun ds h => ?_) (fun d h => ?_)
 ·intro ho;induction ds with
  | nil => intro b; simp [fmtDs]
  | cons x r ih =>
   intro b;simp only [okAlls, Bool.and_eq_true] at ho;have h1 := h x (by simp) ho.1;have h2 := ih (fun y hy => h y (by simp [hy])) ho.2 false;unfold fmtDs wDs;have : (if b = true then ([] : LB) else [32]).length ≤ 1 := by cases b <;> simp
   simp only [List.length_append];omega
 ·intro ho;rw [qG, Bool.and_eq_true] at ho;rw [fmtD_eq, rI];split
  ·omega
  split
  ·rename_i e; have := bC _ ((uL ho.1).1 e); omega
  split
  ·split <;> simp <;> omega
  split
  ·simp; omega
  ·have := h ho.2 true;simp only [List.length_append, List.length_singleton]; omega
theorem ag6 : ∀ (a b : List PD), wDs (a ++ b) = wDs a + wDs b
 | [], b => by simp [wDs]
 | d :: r, b => by rw [List.cons_append, wDs, wDs, ag6 r b]; omega
theorem wDs_take {ds : List PD} {j : Nat} (h : j < ds.length) : wDs (ds.take (j + 1)) = wDs (ds.take j) + (1 + wD ds[j]) ∧ wDs (ds.take (j + 1)) ≤ wDs ds := by
 refine ⟨?_, ?_⟩
 ·rw [← List.take_append_getElem h, ag6]; simp [wDs]
 ·have := ag6 (ds.take (j + 1)) (ds.drop (j + 1));rw [List.take_append_drop] at this; omega
theorem kV : ∀ (n : Nat) (d : PD) (out : LB), d.cnt < n → d.okAll = true → d.small → out.length + 17 * wD d ≤ 1000000000 → p8 n out d = some (out ++ fmtD d)
 | 0, d, _, h, _, _, _ => by omega
 | n + 1, d, out, h, ho, hs, hl => by
  show W0 (p8 n) out d = _;have ho' := ho;rw [qG, Bool.and_eq_true] at ho';have hw := rI d;unfold W0;rw [fmtD_eq];by_cases k1 : d.kind = 1
  ·rw [if_pos k1, if_pos k1, j5 (by omega)]
  rw [if_neg k1, if_neg k1];by_cases k2 : d.kind = 2
  ·have h2 := (uL ho'.1).1 k2;have := bC _ h2;rw [if_pos k2, if_pos k2, N8 _ h2, f7, j5 (by omega)]
  rw [if_neg k2, if_neg k2];by_cases k3 : d.kind = 3
  ·rw [if_pos k3, if_pos k3];split
   ·rw [j5 (by simp; omega)]
   ·rw [j5 (by simp; omega)]
  rw [if_neg k3, if_neg k3];by_cases k4 : d.kind = 4
  ·rw [if_pos k4, if_pos k4, j5 (by simp; omega), j5 (by simp; omega), j5 (by simp; omega)]; simp
  rw [if_neg k4, if_neg k4, j5 (by simp; omega)];have hsl := aL hs;have hfl := ac5.2 d.items ho'.2;have key := iY (L := dU (p8 n) d) (fun r => r = out ++ ([40] ++ fmtDs true d.items ++ [41])) (fun v => 0 ≤ v.1 ∧ v.1 ≤ d.items.length ∧ v.2 ++ fmtDs (decide (v.1 = 0)) (d.items.drop v.1.toNat) = out ++ ([40] ++ fmtDs true d.items) ∧ v.2.length ≤ out.length + 1 + 17 * wDs (d.items.take v.1.toNat)) (fun v => d.items.length - v.1.toNat) (fun go v hv hgo => ?_) (0, out ++ [40]) ⟨by show (0 : Int) ≤ 0; omega, by show (0 : Int) ≤ _; omega, by simp, by simp⟩ (by show d.items.length - 0 < _; omega)
  ·obtain ⟨r, e1, e2⟩ := key; rw [e1, e2]
  ·obtain ⟨i, o⟩ := v;obtain ⟨h1, h2, h3, h4⟩ := hv;simp only at h1 h2 h3 h4;obtain ⟨j, rfl⟩ := Int.eq_ofNat_of_zero_le h1;simp only [Int.ofNat_eq_natCast, Int.toNat_natCast] at *;show ∃ r, R5 (p8 n) d go (j : Int) o = some r ∧ _;unfold R5;by_cases hj : j < d.items.length
   ·rw [if_pos (by omega), o9 hj, f7];have hd := List.drop_eq_getElem_cons hj;rw [hd, fmtDs] at h3;obtain ⟨wt1, wt2⟩ := wDs_take hj;have hxl := ac5.1 _ (mV ho'.2 _ (List.getElem_mem hj));have hwm := oX (List.getElem_mem hj);have hxo := mV ho'.2 _ (List.getElem_mem hj);have hxs := (B9 hs hj).1;have hxc : d.items[j].cnt < n := by have := (B9 hs hj).2; omega
    have fin : ∀ o2 : LB, o2 = o ++ (if decide ((j : Int) = 0) = true then [] else [32]) → ∃ r, I6 (p8 n) (j : Int) go d.items[j] o2 = some r ∧ r = out ++ ([40] ++ fmtDs true d.items ++ [41]) := by
     intro o2 e;have ho2 : o2.length ≤ o.length + 1 := by rw [e]; simp only [List.length_append]; split <;> simp
     unfold I6;rw [kV n _ o2 hxc hxo hxs (by omega), f7, j5 (show -9223372036854775808 ≤ (j : Int) + 1 ∧ (j : Int) + 1 ≤ 9223372036854775807 by omega)];have e1 : ((j : Int) + 1).toNat = j + 1 := by omega
     refine hgo _ ⟨by show (0 : Int) ≤ (j : Int) + 1; omega, by show (j : Int) + 1 ≤ _; omega, ?_, by show (o2 ++ fmtD d.items[j]).length ≤ _ + 17 * wDs (d.items.take ((j : Int) + 1).toNat); rw [e1, List.length_append]; omega⟩ (by show d.items.length - ((j : Int) + 1).toNat < d.items.length - (j : Int).toNat; omega);have e2 : decide ((j : Int) + 1 = 0) = false := by simp; omega
     show (o2 ++ fmtD d.items[j]) ++ fmtDs (decide ((j : Int) + 1 = 0)) (d.items.drop ((j : Int) + 1).toNat) = _;rw [e1, e2, e, ← h3]; simp only [List.append_assoc]
    by_cases hj0 : (j : Int) > 0
    ·rw [if_pos hj0, j5 (by simp; omega)];exact fin _ (by rw [if_neg (by simp; omega)])
    ·rw [if_neg hj0];exact fin _ (by rw [if_pos (by simp; omega)]; simp)
   ·have ht : d.items.take j = d.items := List.take_of_length_le (by omega);rw [ht] at h4;rw [if_neg (by omega), j5 (by simp; omega)];refine ⟨_, rfl, ?_⟩;rw [List.drop_eq_nil_of_le (by omega)] at h3;have e : fmtDs (decide ((j : Int) = 0)) [] = [] := by unfold fmtDs; rfl
    rw [e, List.append_nil] at h3;rw [h3]; simp
theorem tN (d : PD) (hv : d.valid = true) (hw : wD d ≤ 1048576) : Z8 d = some (fmtD d) := by
 have hs := uR hw;unfold Z8;have ho : d.okAll = true := by
  unfold valid at hv; simp only [Bool.and_eq_true] at hv; exact hv.2.2
 rw [sT d hs, f7, if_pos hv, kV RF d [] (RF_cnt hs) ho hs (by simp; omega), f7]; rfl
def joinT : Bool → List (LB) → LB
 | _, [] => []
 | first, t :: r => (if first then [] else [32]) ++ t ++ joinT false r
theorem s_l1Join_eq (ts : List (LB)) (hn : ts.length ≤ 1048576) (hl : (joinT true ts).length ≤ 1000000000) : qV ts [32] = some (joinT true ts) := by
 unfold qV;have key := iY (L := oQ ts [32]) (fun r => r = joinT true ts) (fun v => 0 ≤ v.2 ∧ v.2 ≤ ts.length ∧ v.1 ++ joinT (decide (v.2 = 0)) (ts.drop v.2.toNat) = joinT true ts) (fun v => ts.length - v.2.toNat) (fun go v hv hgo => ?_) ([], 0) ⟨by show (0 : Int) ≤ 0; omega, by show (0 : Int) ≤ _; omega, by simp⟩ (by show ts.length - 0 < _; omega)
 ·obtain ⟨r, e1, e2⟩ := key; rw [e1, e2]
 ·obtain ⟨o, i⟩ := v;obtain ⟨h1, h2, h3⟩ := hv;simp only at h1 h2 h3;obtain ⟨j, rfl⟩ := Int.eq_ofNat_of_zero_le h1;simp only [Int.ofNat_eq_natCast, Int.toNat_natCast] at *;show ∃ r, bV ts [32] go o (j : Int) = some r ∧ _;unfold bV;have hol := congrArg List.length h3;by_cases hj : j < ts.length
  ·rw [if_pos (by omega), o9 hj, f7];rw [List.drop_eq_getElem_cons hj, joinT] at h3 hol;simp only [List.length_append] at hol;have fin : ∀ o2 : LB, o2 = o ++ (if decide ((j : Int) = 0) = true then [] else [32]) → ∃ r, Y0 (j : Int) go ts[j] o2 = some r ∧ r = joinT true ts := by
    intro o2 e;have ho2 : o2.length ≤ o.length + 1 := by rw [e]; simp only [List.length_append]; split <;> simp
    unfold Y0;rw [j5 (by omega), j5 (show -9223372036854775808 ≤ (j : Int) + 1 ∧ (j : Int) + 1 ≤ 9223372036854775807 by omega)];refine hgo _ ⟨by show (0 : Int) ≤ (j : Int) + 1; omega, by show (j : Int) + 1 ≤ _; omega, ?_⟩ (by show ts.length - ((j : Int) + 1).toNat < ts.length - (j : Int).toNat; omega);have e1 : ((j : Int) + 1).toNat = j + 1 := by omega
    have e2 : decide ((j : Int) + 1 = 0) = false := by simp; omega
    show (o2 ++ ts[j]) ++ joinT (decide ((j : Int) + 1 = 0)) (ts.drop ((j : Int) + 1).toNat) = _;rw [e1, e2, e, ← h3]; simp only [List.append_assoc]
   by_cases hj0 : (j : Int) > 0
   ·rw [if_pos hj0, j5 (by simp; omega)];exact fin _ (by rw [if_neg (by simp; omega)])
   ·rw [if_neg hj0];exact fin _ (by rw [if_pos (by simp; omega)]; simp)
  ·rw [if_neg (by omega)];refine ⟨_, rfl, ?_⟩;rw [List.drop_eq_nil_of_le (by omega)] at h3;have e : joinT (decide ((j : Int) = 0)) [] = [] := rfl;rw [e, List.append_nil] at h3;exact h3
theorem ad8 : ∀ (b : Bool) (ds : List PD), joinT b (ds.map fmtD) = fmtDs b ds
 | _, [] => by unfold fmtDs; rfl
 | b, d :: r => by rw [List.map_cons, joinT, fmtDs, ad8 false r]
theorem qU : ∀ (n : Nat) (d : PD), d.cnt < n → d.okAll = true → d.small → wD d ≤ 1048576 → y5 n d = some (fmtD d)
 | 0, d, h, _, _, _ => by omega
 | n + 1, d, h, ho, hs, hl => by
  show bT (y5 n) d = _;have ho' := ho;rw [qG, Bool.and_eq_true] at ho';have hw := rI d;unfold bT;rw [fmtD_eq];by_cases k1 : d.kind = 1
  ·rw [if_pos k1, if_pos k1]
  rw [if_neg k1, if_neg k1];by_cases k2 : d.kind = 2
  ·have h2 := (uL ho'.1).1 k2;rw [if_pos k2, if_pos k2, D7 _ h2, f7]
  rw [if_neg k2, if_neg k2];by_cases k3 : d.kind = 3
  ·rw [if_pos k3, if_pos k3];rcases (uL ho'.1).2 k3 with e | e
   ·rw [if_neg (by omega), e]; rfl
   ·rw [if_pos e, e]; rfl
  rw [if_neg k3, if_neg k3];by_cases k4 : d.kind = 4
  ·rw [if_pos k4, if_pos k4, j5 (by simp; omega), j5 (by simp; omega)]
  rw [if_neg k4, if_neg k4];have hsl := aL hs;have hfl := ac5.2 d.items ho'.2 true;have key := iY (L := jN (y5 n) d) (fun r => r = [40] ++ fmtDs true d.items ++ [41]) (fun v => 0 ≤ v.1 ∧ v.1 ≤ d.items.length ∧ v.2 = (d.items.take v.1.toNat).map fmtD) (fun v => d.items.length - v.1.toNat) (fun go v hv hgo => ?_) (0, []) ⟨by show (0 : Int) ≤ 0; omega, by show (0 : Int) ≤ _; omega, by simp⟩ (by show d.items.length - 0 < _; omega)
  ·obtain ⟨r, e1, e2⟩ := key; rw [e1, e2]
  ·obtain ⟨i, ps⟩ := v;obtain ⟨h1, h2, h3⟩ := hv;simp only at h1 h2 h3;obtain ⟨j, rfl⟩ := Int.eq_ofNat_of_zero_le h1;simp only [Int.ofNat_eq_natCast, Int.toNat_natCast] at *;show ∃ r, W3 (y5 n) d go (j : Int) ps = some r ∧ _;unfold W3;by_cases hj : j < d.items.length
   ·have hwm := oX (List.getElem_mem hj);rw [if_pos (by omega), o9 hj, f7, qU n _ (by have := (B9 hs hj).2; omega) (mV ho'.2 _ (List.getElem_mem hj)) (B9 hs hj).1 (by omega), f7, j5 (by rw [h3]; simp; omega), j5 (show -9223372036854775808 ≤ (j : Int) + 1 ∧ (j : Int) + 1 ≤ 9223372036854775807 by omega)];refine hgo _ ⟨by show (0 : Int) ≤ (j : Int) + 1; omega, by show (j : Int) + 1 ≤ _; omega, ?_⟩ (by show d.items.length - ((j : Int) + 1).toNat < d.items.length - (j : Int).toNat; omega);have e1 : ((j : Int) + 1).toNat = j + 1 := by omega
    show ps ++ [fmtD d.items[j]] = (d.items.take ((j : Int) + 1).toNat).map fmtD;rw [e1, h3, ← List.take_append_getElem hj, List.map_append]; rfl
   ·have e : ps = d.items.map fmtD := by rw [h3, List.take_of_length_le (by omega)]
    rw [if_neg (by omega), s_l1Join_eq ps (by rw [e]; simp; omega) (by rw [e, ad8]; omega), f7, e, ad8, j5 (by simp; omega), j5 (by simp; omega)];exact ⟨_, rfl, rfl⟩
theorem opNames_len : ∀ i : Nat, i < 20 → ∃ t, nth G3 (i : Int) = some t ∧ t.length ≤ 20
 | 0, _ => ⟨_, rfl, by decide⟩ | 1, _ => ⟨_, rfl, by decide⟩ | 2, _ => ⟨_, rfl, by decide⟩ | 3, _ => ⟨_, rfl, by decide⟩ | 4, _ => ⟨_, rfl, by decide⟩
 | 5, _ => ⟨_, rfl, by decide⟩ | 6, _ => ⟨_, rfl, by decide⟩ | 7, _ => ⟨_, rfl, by decide⟩ | 8, _ => ⟨_, rfl, by decide⟩ | 9, _ => ⟨_, rfl, by decide⟩
 | 10, _ => ⟨_, rfl, by decide⟩ | 11, _ => ⟨_, rfl, by decide⟩ | 12, _ => ⟨_, rfl, by decide⟩ | 13, _ => ⟨_, rfl, by decide⟩ | 14, _ => ⟨_, rfl, by decide⟩
 | 15, _ => ⟨_, rfl, by decide⟩ | 16, _ => ⟨_, rfl, by decide⟩ | 17, _ => ⟨_, rfl, by decide⟩ | 18, _ => ⟨_, rfl, by decide⟩ | 19, _ => ⟨_, rfl, by decide⟩
 | n + 20, h => by omega
theorem OpName_eq (op : Int) (h : 1 ≤ op ∧ op ≤ 20) : ∃ t, aA op = some t ∧ fG op = some t ∧ t.length ≤ 20 := by
 obtain ⟨i, hi⟩ : ∃ i : Nat, op - 1 = (i : Int) := ⟨(op - 1).toNat, by omega⟩
 obtain ⟨t, e1, e2⟩ := opNames_len i (by omega);have c : I64 (op - 1) := show -9223372036854775808 ≤ op - 1 ∧ op - 1 ≤ 9223372036854775807 by omega
 refine ⟨t, ?_, ?_, e2⟩
 ·unfold aA;rw [if_neg (by omega), if_neg (by omega), j5 c, hi, e1, f7]
 ·unfold fG;have hin : Z0 op 1 20 = some true := by unfold Z0; rw [if_pos (by omega)]; simp; omega
  rw [hin, f7, if_pos rfl, j5 c, hi];show bnd (nth G3 (i : Int)) _ = _;rw [e1, f7]
theorem FormatInstr_eq (x : PInstr) (hw : wD x.d ≤ 1048576) : ∃ t, C5 x = some t ∧ E5 x = some t ∧ (instrOK x = true → t.length ≤ 20 + 1 + 17 * 1048576 + 16) := by
 have hs := uR hw;unfold C5 E5;rw [sY x hs, qP x hs, f7, f7];cases hok : instrOK x
 ·exact ⟨_, rfl, rfl, fun h => by cases h⟩
 rw [if_pos rfl, if_pos rfl];unfold instrOK inside at hok;rw [Bool.and_eq_true] at hok;have hop : 1 ≤ x.op ∧ x.op ≤ 20 := by simpa using hok.1
 obtain ⟨t, e1, e2, e3⟩ := OpName_eq x.op hop;by_cases h1 : x.op = 1
 ·rw [if_pos h1] at hok;have hv : x.d.valid = true := by have := hok.2; simp only [Bool.and_eq_true] at this; exact this.2
  have ho : x.d.okAll = true := by
   unfold valid at hv; simp only [Bool.and_eq_true] at hv; exact hv.2.2
  have hl := ac5.1 x.d ho;rw [if_pos h1, if_pos h1, e1, f7, e2, f7, j5 (by simp; omega), j5 (by simp; omega), tN x.d hv hw, f7, qU RF x.d (RF_cnt hs) ho hs hw, f7, j5 (by simp; omega)];exact ⟨_, rfl, rfl, fun _ => by simp; omega⟩
 ·rw [if_neg h1] at hok;have ha : 0 ≤ x.a ∧ x.a ≤ 4000 := by
   have := hok.2; simp only [Bool.and_eq_true] at this; simpa using this.2.1
  have hi := bC x.a (by omega);rw [if_neg h1, if_neg h1];unfold cY;by_cases h14 : x.op = 14
  ·rw [if_pos h14, if_pos h14, f7, if_pos rfl, e1, e2, f7];exact ⟨_, rfl, rfl, fun _ => by omega⟩
  rw [if_neg h14, if_neg h14, f7];by_cases h17 : x.op = 17
  ·rw [if_pos h17, if_pos (by simp [h17]), e1, e2, f7];exact ⟨_, rfl, rfl, fun _ => by omega⟩
  rw [if_neg h17, if_neg (by simp [h17]), e1, e2, f7, f7, j5 (by simp; omega), j5 (by simp; omega), N8 _ (by omega), D7 _ (by omega), f7, j5 (by simp; omega)];exact ⟨_, rfl, rfl, fun _ => by simp; omega⟩
end Go.Abs

namespace Go.Abs
open Go.Lib (itoa)
abbrev LL := List (LB)
theorem yK (xs : LL) (h : xs.length ≤ 1048576) : eP xs xs = some true := by
 unfold eP;exact eqS_refl' (L := gA xs xs) xs h (fun go i => rfl)
def mtx (i : Nat) : LB := (I3 (1 + (i : Int))).getD []
theorem mtx_eq (i : Nat) (h : i ≤ 1048576) (k : Int) (hk : k = 1 + (i : Int)) : I3 k = some (mtx i) := by
 obtain ⟨t, ht⟩ := pY k (by omega);unfold mtx; rw [← hk, ht]; rfl
theorem tU (xs : LL) (hn : xs.length ≤ 1048576) : ∃ a', aM xs 1 = some (1 + (xs.length : Int), a') ∧ a'.length = xs.length ∧ ∀ i : Nat, i < xs.length → a'[i]? = some (mtx i) := by
 unfold aM;have := iY (L := cM) (fun r => ∃ a', r = (1 + (xs.length : Int), a') ∧ a'.length = xs.length ∧ ∀ i : Nat, i < xs.length → a'[i]? = some (mtx i)) (fun v => (0 ≤ v.2.1 ∧ v.2.1 ≤ xs.length) ∧ v.1 = 1 + v.2.1 ∧ v.2.2.length = xs.length ∧ ∀ i : Nat, (i : Int) < v.2.1 → v.2.2[i]? = some (mtx i)) (fun v => xs.length - v.2.1.toNat) (fun go v hv hgo => ?_) (1, 0, xs) ⟨⟨by show (0:Int) ≤ 0; omega, by show (0 : Int) ≤ _; omega⟩, rfl, rfl, fun i hi => by have : (i : Int) < 0 := hi; omega⟩ (by show xs.length - 0 < _; omega)
 ·obtain ⟨r, h1, a', h2, h3⟩ := this; exact ⟨a', by rw [h1, h2], h3⟩
 ·obtain ⟨k, j, a⟩ := v;obtain ⟨⟨h1, h2⟩, h3, h4, h5⟩ := hv;simp only at h1 h2 h3 h4 h5;obtain ⟨i, rfl⟩ := Int.eq_ofNat_of_zero_le h1;simp only [Int.ofNat_eq_natCast] at *;show ∃ r, O9 go k (i : Int) a = some r ∧ _;unfold O9;by_cases hi : i < xs.length
  ·rw [if_pos (by omega), mtx_eq i (by omega) k h3, f7, o9 (by omega), f7, j5 (by omega), j5 (by omega), Int.toNat_natCast];refine hgo (k + 1, (i : Int) + 1, a.set i (mtx i)) ⟨⟨by show (0 : Int) ≤ (i : Int) + 1; omega, by show (i : Int) + 1 ≤ _; omega⟩, by show k + 1 = 1 + ((i : Int) + 1); omega, by simpa using h4, fun m hm => ?_⟩ (by show xs.length - ((i : Int) + 1).toNat < xs.length - (i : Int).toNat; omega);have hm' : (m : Int) < (i : Int) + 1 := hm;show (a.set i (mtx i))[m]? = _;by_cases e : i = m
   ·subst e;rw [List.getElem?_set_self (by omega)]
   ·rw [List.getElem?_set_ne e];exact h5 m (by omega)
  ·have : i = xs.length := by omega
   subst this;rw [if_neg (by omega)];exact ⟨_, rfl, _, by rw [h3], h4, fun m hm => h5 m (by omega)⟩
def fiT (x : PInstr) : LB := (C5 x).getD []
theorem fiT_eq {x : PInstr} (hw : wD x.d ≤ 1048576) : C5 x = some (fiT x) ∧ E5 x = some (fiT x) := by
 obtain ⟨t, e1, e2, _⟩ := FormatInstr_eq x hw;have : fiT x = t := by unfold fiT; rw [e1]; rfl
 rw [this]; exact ⟨e1, e2⟩
def headT (c : PCode) : LB := [99, 111, 100, 101, 32] ++ itoa c.params ++ [32] ++ itoa c.slots ++ [32] ++ itoa c.captures
def codeT (c : PCode) : LL := headT c :: c.instrs.map fiT
def linesT (cs : List PCode) : LL := cs.flatMap codeT
theorem dX (c : PCode) (r : List PCode) : linesT (c :: r) = codeT c ++ linesT r := by unfold linesT; rw [List.flatMap_cons]
theorem linesT_len : ∀ cs : List PCode, (linesT cs).length ≤ wts wC cs
 | [] => by simp [linesT]
 | c :: r => by
  have h := linesT_len r;rw [dX];have h1 : wts wC (c :: r) = 1 + wC c + wts wC r := by unfold wts; simp; omega
  have h2 : wC c = c.instrs.length + (c.instrs.map wI).sum := rfl;rw [h1, List.length_append];unfold codeT;simp only [List.length_cons, List.length_map];omega
theorem dC : ∀ cs : List PCode, cs.length ≤ (linesT cs).length
 | [] => Nat.zero_le _
 | c :: r => by
  have h := dC r;rw [dX, List.length_append];have : (codeT c).length = c.instrs.length + 1 := by unfold codeT; simp
  simp only [List.length_cons];omega
def numsOK (c : PCode) : Prop := (-999999999 ≤ c.params ∧ c.params ≤ 999999999) ∧ (-999999999 ≤ c.slots ∧ c.slots ≤ 999999999) ∧ (-999999999 ≤ c.captures ∧ c.captures ≤ 999999999)
theorem lines_inner {FI : PInstr → Option (LB)} {L : (Int × LL → Option LL) → Int × LL → Option LL} (c : PCode) (k : LL → Option LL) (N : Nat) (hN : N ≤ 100000000) (hI : ∀ x ∈ c.instrs, FI x = some (fiT x)) (out : LL) (ho : out.length + c.instrs.length ≤ N)
 (hL : ∀ go (x9 : Int) (out10 : LL), L go (x9, out10) = if x9 < (c.instrs.length : Int) then
  bnd (nth c.instrs x9) fun x12 => bnd (FI x12) fun x13 => chk ((out10.length + ([x13] : LL).length) * 16 ≤ 140737488355328) <| chk (I64 (x9 + 1)) <| go ((x9 + 1), (out10 ++ ([x13] : LL)))
 else k out10) : itr L LF (0, out) = k (out ++ c.instrs.map fiT) := by
 rw [K2 (L := L) c.instrs.length (fun i a => a.length = out.length + i) (fun i a => k (a ++ (c.instrs.drop i).map fiT)) (by omega) (fun go i a hi ha hgo => ?_) (fun go a ha => ?_) (by simp)]
 ·rfl
 ·rw [hL, if_pos (by omega), o9 hi, f7, hI _ (List.getElem_mem hi), f7, j5 (by simp; omega), j5 (show -9223372036854775808 ≤ (i : Int) + 1 ∧ (i : Int) + 1 ≤ 9223372036854775807 by omega), hgo _ (by simp; omega), List.drop_eq_getElem_cons hi, List.map_cons];simp
 ·rw [hL, if_neg (by omega), List.drop_length]; simp
theorem wK {FN : Int → Option (LB)} {FI : PInstr → Option (LB)} {L1 : (Int × LL → Option LL) → Int × LL → Option LL} {L2 : Int → (Int × LL → Option LL) → PCode → (Int × LL → Option LL) → Int × LL → Option LL} (m : PImage) (hw : (linesT m.codes).length ≤ 1048576)
 (hn : ∀ c ∈ m.codes, numsOK c) (hI : ∀ c ∈ m.codes, ∀ x ∈ c.instrs, FI x = some (fiT x)) (hN : ∀ n : Int, -999999999 ≤ n ∧ n ≤ 999999999 → FN n = some (itoa n))
 (hL2 : ∀ (x2 : Int) go4 (c : PCode) go (x9 : Int) (out10 : LL), L2 x2 go4 c go (x9, out10) = if x9 < (c.instrs.length : Int) then
  bnd (nth c.instrs x9) fun x12 => bnd (FI x12) fun x13 => chk ((out10.length + ([x13] : LL).length) * 16 ≤ 140737488355328) <| chk (I64 (x9 + 1)) <| go ((x9 + 1), (out10 ++ ([x13] : LL)))
 else chk (I64 (x2 + 1)) <| go4 ((x2 + 1), out10))
 (hL1 : ∀ go4 (x2 : Int) (out3 : LL), L1 go4 (x2, out3) = if x2 < (m.codes.length : Int) then
  bnd (nth m.codes x2) fun x5 =>
  bnd (FN x5.params) fun x6 =>
  chk (([99, 111, 100, 101, 32] : LB).length + x6.length ≤ 9223372036854775807) <|
  chk ((([99, 111, 100, 101, 32] : LB) ++ x6).length + ([32] : LB).length ≤ 9223372036854775807) <|
  bnd (FN x5.slots) fun x7 =>
  chk (((([99, 111, 100, 101, 32] : LB) ++ x6) ++ ([32] : LB)).length + x7.length ≤ 9223372036854775807) <|
  chk ((((([99, 111, 100, 101, 32] : LB) ++ x6) ++ ([32] : LB)) ++ x7).length + ([32] : LB).length ≤ 9223372036854775807) <|
  bnd (FN x5.captures) fun x8 =>
  chk (((((([99, 111, 100, 101, 32] : LB) ++ x6) ++ ([32] : LB)) ++ x7) ++ ([32] : LB)).length + x8.length ≤ 9223372036854775807) <|
  chk ((out3.length + ([(((((([99, 111, 100, 101, 32] : LB) ++ x6) ++ ([32] : LB)) ++ x7) ++ ([32] : LB)) ++ x8)] : List (LB)).length) * 16 ≤ 140737488355328) <|
  itr (L2 x2 go4 x5) LF (0, (out3 ++ ([(((((([99, 111, 100, 101, 32] : LB) ++ x6) ++ ([32] : LB)) ++ x7) ++ ([32] : LB)) ++ x8)] : List (LB))))
 else some out3) : itr L1 LF (0, []) = some (linesT m.codes) := by
 have hcl := dC m.codes;rw [K2 (L := L1) m.codes.length (fun i a => a.length + (linesT (m.codes.drop i)).length = (linesT m.codes).length) (fun i a => some (a ++ linesT (m.codes.drop i))) (by omega) (fun go i a hi ha hgo => ?_) (fun go a ha => ?_) (by simp)]
 ·simp
 ·have hc := List.getElem_mem hi;obtain ⟨n1, n2, n3⟩ := hn _ hc;have l1 := bC _ n1;have l2 := bC _ n2;have l3 := bC _ n3;rw [List.drop_eq_getElem_cons hi, dX] at ha ⊢;have hcd : (codeT m.codes[i]).length = 1 + m.codes[i].instrs.length := by unfold codeT; simp; omega
  rw [List.length_append, hcd] at ha;rw [hL1, if_pos (by omega), o9 hi, f7, hN _ n1, f7, j5 (by simp; omega), j5 (by simp; omega), hN _ n2, f7, j5 (by simp; omega), j5 (by simp; omega), hN _ n3, f7, j5 (by simp; omega), j5 (by simp; omega)];rw [lines_inner (L := L2 (i : Int) go m.codes[i]) (FI := FI) m.codes[i] (fun o => chk (I64 ((i : Int) + 1)) <| go (((i : Int) + 1), o)) 100000000 (Nat.le_refl _) (hI _ hc) _ (by simp; omega) (fun go' x9 o => hL2 _ _ _ _ _ _)];rw [j5 (show -9223372036854775808 ≤ (i : Int) + 1 ∧ (i : Int) + 1 ≤ 9223372036854775807 by omega), hgo _ (by simp; omega)];unfold codeT headT;simp
 ·rw [hL1, if_neg (by omega), List.drop_length]; simp [linesT]
theorem kC (m : PImage) (hl : (linesT m.codes).length ≤ 1048576) (hd : ∀ c ∈ m.codes, ∀ x ∈ c.instrs, wD x.d ≤ 1048576) (hn : ∀ c ∈ m.codes, numsOK c) : K0 m = some (linesT m.codes) := by
 unfold K0;exact wK (FN := w8) (FI := C5) (L1 := dJ m) (L2 := dK) m hl hn (fun c hc x hx => (fiT_eq (hd c hc x hx)).1) (fun n h => N8 n h) (fun x2 go4 c go x9 o => rfl) (fun go4 x2 o => rfl)
theorem nW (m : PImage) (hl : (linesT m.codes).length ≤ 1048576) (hd : ∀ c ∈ m.codes, ∀ x ∈ c.instrs, wD x.d ≤ 1048576) (hn : ∀ c ∈ m.codes, numsOK c) : Y6 m = some (linesT m.codes) := by
 unfold Y6;exact wK (FN := v8) (FI := E5) (L1 := jK m) (L2 := jL) m hl hn (fun c hc x hx => (fiT_eq (hd c hc x hx)).2) (fun n h => D7 n h) (fun x2 go4 c go x9 o => rfl) (fun go4 x2 o => rfl)
end Go.Abs
