
import Derived.Test.YtmgigglpdhoneaaGreatDoorLibS
import Derived.Test.YtmgigglpdhoneaaGreatDoorLibV
set_option linter.unusedVariables false
set_option linter.unusedSimpArgs false
namespace Go.Abs
open Go.Lib (decFrom decNat itoa decDigits digitVal atoi)
open PD
theorem nC : ∀ (l : List UInt8) (acc m : Nat), decFrom acc l = some m → m < (acc + 1) * 10 ^ l.length
 | [], acc, m, h => by simp [decFrom] at h; subst h; simp
 | b :: r, acc, m, h => by
  unfold decFrom digitVal at h
  split at h
  ·rename_i d hd
   split at hd
   ·simp only [Option.some.injEq] at hd
    have h2 := nC r _ m h
    have h3 : (acc * 10 + d + 1) * 10 ^ r.length ≤ (acc + 1) * 10 * 10 ^ r.length := Nat.mul_le_mul_right _ (by omega)
    rw [List.length_cons, Nat.pow_succ, Nat.mul_comm (10 ^ r.length) 10, ← Nat.mul_assoc]
    omega
   ·cases hd
  ·cases h
theorem nD {l : List UInt8} {m : Nat} (h : decFrom 0 l = some m) (hl : l.length ≤ 9) : m ≤ 999999999 := by
 have h1 := nC l 0 m h
 have h2 : (10 : Nat) ^ l.length ≤ 10 ^ 9 := Nat.pow_le_pow_right (by omega) hl
 omega
def numS (s : List UInt8) : Int × Bool := match s with
 | [] => (0, false)
 | b :: r => if b = 45 then (if r.length = 0 ∨ 9 < r.length then (0, false) else match decFrom 0 r with
  | none => (0, false)
  | some m => if itoa (-(m : Int)) = s then (-(m : Int), true) else (0, false))
  else (if 9 < s.length then (0, false) else match decFrom 0 s with
   | none => (0, false)
   | some m => if itoa (m : Int) = s then ((m : Int), true) else (0, false))
theorem numS_range (s : List UInt8) : -999999999 ≤ (numS s).1 ∧ (numS s).1 ≤ 999999999 := by
 unfold numS
 split
 ·simp
 ·split
  ·split
   ·simp
   ·rename_i h9
    split
    ·simp
    ·rename_i m hm
     have := nD hm (by omega)
     split <;> dsimp only <;> omega
  ·split
   ·simp
   ·rename_i h9
    split
    ·simp
    ·rename_i m hm
     have := nD hm (by omega)
     split <;> dsimp only <;> omega
theorem iR (b : UInt8) (r : List UInt8) : numS (b :: r) = if b = 45 then (if r.length = 0 ∨ 9 < r.length then (0, false) else match decFrom 0 r with
 | none => (0, false)
 | some m => if itoa (-(m : Int)) = b :: r then (-(m : Int), true) else (0, false))
 else (if 9 < (b :: r).length then (0, false) else match decFrom 0 (b :: r) with
  | none => (0, false)
  | some m => if itoa (m : Int) = b :: r then ((m : Int), true) else (0, false)) := rfl
def finN (s : List UInt8) (x3 : Int) (m : Nat) : Option (Int × Bool) :=
 if x3 = 1 then (if itoa (-(m : Int)) = s then some (-(m : Int), true) else some (0, false)) else (if itoa (m : Int) = s then some ((m : Int), true) else some (0, false))
theorem jJ (s : List UInt8) (x3 : Nat) (hx1 : x3 ≤ 1) (hx : x3 ≤ s.length) (h9 : s.length - x3 ≤ 9) :
 itr (I6 s (x3 : Int)) LF (0, (x3 : Int)) = match decFrom 0 (s.drop x3) with | none => some (0, false) | some m => finN s (x3 : Int) m := by
 refine (fV (L := I6 s (x3 : Int)) (fun v => match decFrom v.1.toNat (s.drop v.2.toNat) with | none => some (0, false) | some m => finN s (x3 : Int) m) (fun v => 0 ≤ v.1 ∧ ((x3 : Int) ≤ v.2 ∧ v.2 ≤ s.length) ∧ v.1.toNat < 10 ^ (v.2.toNat - x3)) (fun v => s.length - v.2.toNat) (fun go v hv hgo => ?_) (0, (x3 : Int)) ⟨Int.le_refl _, ⟨Int.le_refl _, by show (x3 : Int) ≤ _; omega⟩, by simp⟩ (by show s.length - _ < _; omega)).trans ?_
 ·obtain ⟨acc, j⟩ := v
  obtain ⟨h0, ⟨h1, h2⟩, h3⟩ := hv
  dsimp only at h0 h1 h2 h3 ⊢
  obtain ⟨i, rfl⟩ := Int.eq_ofNat_of_zero_le (show 0 ≤ j by omega)
  obtain ⟨a, rfl⟩ := Int.eq_ofNat_of_zero_le h0
  simp only [Int.ofNat_eq_natCast, Int.toNat_natCast] at *
  have hp : (10 : Nat) ^ (i - x3) ≤ 10 ^ 9 := Nat.pow_le_pow_right (by omega) (by omega)
  show B6 s (x3 : Int) go (a : Int) (i : Int) = _
  unfold B6
  by_cases hi : i < s.length
  ·rw [if_pos (by omega), l6 hi, f5, bI, f5, List.drop_eq_getElem_cons hi]
   unfold decFrom digitVal
   by_cases hd : 48 ≤ (s[i]).toNat ∧ (s[i]).toNat ≤ 57
   ·have hb : (decide (48 ≤ ((s[i]).toNat : Int)) && decide (((s[i]).toNat : Int) ≤ 57)) = true := by simp; omega
    rw [if_pos hb, if_pos hd, j3 (by omega), f5, j3 (by omega), j3 (by omega), j3 (by omega), j3 (by omega)]
    have e : (10 * (a : Int) + (((s[i]).toNat : Int) - 48)).toNat = a * 10 + ((s[i]).toNat - 48) := by omega
    have e2 : ((i : Int) + 1).toNat = i + 1 := by omega
    have hk := hgo (10 * (a : Int) + (((s[i]).toNat : Int) - 48), (i : Int) + 1) ⟨by dsimp only; omega, ⟨by dsimp only; omega, by dsimp only; omega⟩, by
     dsimp only
     rw [e, e2, show i + 1 - x3 = (i - x3) + 1 by omega, Nat.pow_succ]; omega⟩ (by dsimp only; omega)
    rw [hk]
    dsimp only
    rw [e, e2]
   ·have hb : (decide (48 ≤ ((s[i]).toNat : Int)) && decide (((s[i]).toNat : Int) ≤ 57)) = false := by
     rw [Bool.eq_false_iff]; simp; omega
    rw [if_neg (by rw [hb]; simp), if_neg hd]
  ·have hie : i = s.length := by omega
   subst hie
   rw [if_neg (by omega), List.drop_length]
   unfold decFrom finN
   dsimp only
   by_cases h1 : (x3 : Int) = 1
   ·rw [if_pos h1, if_pos h1, j3 (by omega), G3 _ (by omega), f5]
   ·rw [if_neg h1, if_neg h1, G3 _ (by omega), f5]
 ·rfl
theorem byte_eq (b : UInt8) (n : Nat) (hn : n < 256) : (decide ((b.toNat : Int) = (n : Int))) = decide (b = UInt8.ofNat n) := by
 refine decide_eq_decide.2 ⟨fun h => ?_, fun h => ?_⟩
 ·have : b.toNat = n := by omega
  rw [← this]; simp
 ·subst h
  rw [UInt8.toNat_ofNat_of_lt' hn]
theorem aC (s : List UInt8) (h : SM s) : D0 s = some (numS s) := by
 unfold D0
 have hsm : s.length ≤ 9223372036854775806 := h
 cases s with
 | nil =>
  rw [if_neg (by simp)]
  unfold v6 s8
  rw [if_neg (by simp), if_pos (by simp), numS]
 | cons b r =>
  have e45 : decide ((b.toNat : Int) = 45) = decide (b = 45) := byte_eq b 45 (by omega)
  rw [if_pos (by simp only [List.length_cons]; omega), show nth (b :: r) 0 = some b from rfl, f5, e45]
  unfold v6
  rw [iR]
  simp only [List.length_cons] at hsm
  by_cases hb : b = 45
  ·rw [decide_eq_true hb, if_pos rfl]
   unfold s8
   rw [if_pos hb, List.length_cons]
   by_cases h0 : r.length = 0
   ·rw [if_pos (by omega), if_pos (.inl h0)]
   ·rw [if_neg (by omega), j3 (by omega)]
    by_cases h9 : 9 < r.length
    ·rw [if_pos (by omega), if_pos (.inr h9)]
    ·rw [if_neg (by omega), if_neg (by omega)]
     have key := jJ (b :: r) 1 (by omega) (by simp) (by simp; omega)
     refine key.trans ?_
     rw [show (b :: r).drop 1 = r from rfl]
     unfold finN
     cases decFrom 0 r with
     | none => rfl
     | some m =>
      dsimp only
      rw [if_pos (show ((1 : Nat) : Int) = 1 from rfl)]
      split <;> rfl
  ·rw [decide_eq_false hb, if_neg (by simp)]
   unfold s8
   rw [if_neg hb, List.length_cons, if_neg (by omega), j3 (by omega)]
   by_cases h9 : 9 < r.length + 1
   ·rw [if_pos (by omega), if_pos h9]
   ·rw [if_neg (by omega), if_neg h9]
    have key := jJ (b :: r) 0 (by omega) (by simp) (by simp; omega)
    refine key.trans ?_
    rw [show (b :: r).drop 0 = b :: r from rfl]
    unfold finN
    cases decFrom 0 (b :: r) with
    | none => rfl
    | some m =>
     dsimp only
     rw [if_neg (by omega)]
     split <;> rfl
theorem dig_of : ∀ (n u : Nat), u < n → ∀ b ∈ decDigits u, 48 ≤ b.toNat ∧ b.toNat ≤ 57
 | 0, u, h, _, _ => by omega
 | n + 1, u, h, b, hb => by
  have hof : ∀ k, k < 10 → (UInt8.ofNat (48 + k)).toNat = 48 + k := fun k hk => UInt8.toNat_ofNat_of_lt' (by show 48 + k < 256; omega)
  by_cases hu : u < 10
  ·rw [hU hu, List.mem_singleton] at hb
   subst hb
   rw [hof u hu]; omega
  ·rw [dec_big hu] at hb
   rcases List.mem_append.1 hb with hb | hb
   ·exact dig_of n (u / 10) (by omega) b hb
   ·rw [List.mem_singleton] at hb
    subst hb
    rw [hof (u % 10) (by omega)]; omega
def aR (o : Option Int) : Int × Bool := match o with
 | some n => (n, false)
 | none => (0, true)
theorem atoiR_cons (b : UInt8) (r : List UInt8) : atoiR (b :: r) = aR (if b = 45 then (decNat r).map fun (m : Nat) => -(m : Int) else if b = 43 then (decNat r).map fun (m : Nat) => (m : Int) else (decNat (b :: r)).map fun (m : Nat) => (m : Int)) := by
 unfold atoiR atoi
 by_cases h1 : b = 45
 ·subst h1; rfl
 ·by_cases h2 : b = 43
  ·subst h2; rfl
  ·simp only [beq_iff_eq, h1, h2, if_false]; rfl
def tailN (s : List UInt8) (x2 : Int × Bool) : Option (Int × Bool) :=
 if x2.2 = true then some (0, false) else if x2.1 < (-999999999) then some (0, false) else if x2.1 > 999999999 then some (0, false) else
 bnd (w6 x2.1) fun x3 => if x3 = s then some (x2.1, true) else some (0, false)
theorem W3 (s : List UInt8) : tailN s (aR none) = some (0, false) := by
 unfold tailN aR
 rw [if_pos rfl]
theorem tailN_big (s : List UInt8) (n : Int) (h : n > 999999999) : tailN s (aR (some n)) = some (0, false) := by
 unfold tailN aR
 dsimp only
 rw [if_neg (by simp), if_neg (by omega), if_pos h]
theorem cD (s : List UInt8) (n : Int) (h : -999999999 ≤ n ∧ n ≤ 999999999) : tailN s (aR (some n)) = some (if itoa n = s then (n, true) else (0, false)) := by
 unfold tailN aR
 dsimp only
 rw [if_neg (by simp), if_neg (by omega), if_neg (by omega), M0 n h, f5]
 split <;> rfl
theorem itoa_nat (m : Nat) : itoa (m : Int) = decDigits m := by unfold itoa; rw [if_neg (by omega), Int.toNat_natCast]
theorem Z7 (s : List UInt8) (h : SM s) : G1 s = some (numS s) := by
 unfold G1
 cases s with
 | nil => rw [if_pos (by simp)]; rfl
 | cons b r =>
  rw [if_neg (by simp only [List.length_cons]; omega)]
  by_cases hl : ((b :: r).length : Int) > 10
  ·rw [if_pos hl, iR]
   simp only [List.length_cons] at hl ⊢
   by_cases hb : b = 45
   ·rw [if_pos hb, if_pos (.inr (by omega))]
   ·rw [if_neg hb, if_pos (by omega)]
  ·rw [if_neg hl]
   simp only [List.length_cons] at hl
   unfold x_Atoi
   rw [j3 (by simp only [List.length_cons]; omega), f5]
   show tailN (b :: r) (atoiR (b :: r)) = _
   rw [atoiR_cons, iR]
   by_cases hb : b = 45
   ·rw [if_pos hb, if_pos hb]
    unfold decNat
    cases r with
    | nil => rw [if_pos (show ([] : List UInt8).isEmpty = true from rfl), Option.map_none, W3, if_pos (.inl rfl)]
    | cons c t =>
     simp only [List.length_cons] at hl ⊢
     rw [if_neg (show ¬ (c :: t).isEmpty = true by simp), if_neg (show ¬ (t.length + 1 = 0 ∨ 9 < t.length + 1) by omega)]
     cases hd : decFrom 0 (c :: t) with
     | none => rw [Option.map_none, W3]
     | some m =>
      have hm := nD hd (by simp only [List.length_cons]; omega)
      rw [Option.map_some, cD _ _ (by omega)]
   ·rw [if_neg hb, if_neg hb]
    by_cases hp : b = 43
    ·rw [if_pos hp]
     have hn : decFrom 0 (b :: r) = none := by unfold decFrom digitVal; rw [hp]; rfl
     rw [hn]
     have hR : (if 9 < (b :: r).length then ((0 : Int), false) else match (none : Option Nat) with | none => (0, false) | some m => if itoa (m : Int) = b :: r then ((m : Int), true) else (0, false)) = (0, false) := by split <;> rfl
     rw [hR]
     unfold decNat
     cases r with
     | nil => rw [if_pos (show ([] : List UInt8).isEmpty = true from rfl), Option.map_none, W3]
     | cons c t =>
      simp only [List.length_cons] at hl
      rw [if_neg (show ¬ (c :: t).isEmpty = true by simp)]
      cases hd : decFrom 0 (c :: t) with
      | none => rw [Option.map_none, W3]
      | some m =>
       have hm := nD hd (by simp only [List.length_cons]; omega)
       rw [Option.map_some, cD _ _ (by omega), if_neg]
       intro e
       rw [itoa_nat] at e
       have h2 := dig_of (m + 1) m (by omega) b (by rw [e]; simp)
       rw [hp] at h2
       have h3 : (43 : UInt8).toNat = 43 := rfl
       omega
    ·rw [if_neg hp]
     have e : decNat (b :: r) = decFrom 0 (b :: r) := rfl
     rw [e]
     cases hd : decFrom 0 (b :: r) with
     | none =>
      rw [Option.map_none, W3]
      split <;> rfl
     | some m =>
      rw [Option.map_some]
      by_cases h9 : 9 < (b :: r).length
      ·rw [if_pos h9]
       by_cases hm : (m : Int) > 999999999
       ·rw [tailN_big _ _ hm]
       ·rw [cD _ _ (by omega), if_neg]
        intro e
        have h2 := lK m (by omega)
        rw [itoa_nat] at e
        rw [e] at h2; omega
      ·rw [if_neg h9]
       have hm := nD hd (by omega)
       rw [cD _ _ (by omega)]
def fnd (p : UInt8 → Bool) : List UInt8 → Nat
 | [] => 0
 | b :: r => if p b = true then 0 else 1 + fnd p r
theorem fnd_cons (p : UInt8 → Bool) (b : UInt8) (r : List UInt8) : fnd p (b :: r) = if p b = true then 0 else 1 + fnd p r := rfl
theorem nQ (p : UInt8 → Bool) : ∀ l : List UInt8, fnd p l ≤ l.length
 | [] => Nat.le_refl _
 | b :: r => by
  have := nQ p r
  unfold fnd
  split <;> simp <;> omega
theorem fnd_drop (p : UInt8 → Bool) {l : List UInt8} {i : Nat} (h : i < l.length) : fnd p (l.drop i) = if p l[i] = true then 0 else 1 + fnd p (l.drop (i + 1)) := by
 rw [List.drop_eq_getElem_cons h, fnd]
theorem fnd_end (p : UInt8 → Bool) (l : List UInt8) : fnd p (l.drop l.length) = 0 := by rw [List.drop_length]; rfl
theorem scan {σ R : Type} {L : (σ → Option R) → σ → Option R} (mk : Nat → σ) (src : List UInt8) (P : UInt8 → Bool) (F : Nat → Option R)
 (step : ∀ go (i : Nat) (hi : i < src.length), P src[i] = false → L go (mk i) = go (mk (i + 1)))
 (hit : ∀ go (i : Nat) (hi : i < src.length), P src[i] = true → L go (mk i) = F i)
 (fin : ∀ go, L go (mk src.length) = F src.length) : ∀ (m i : Nat), i ≤ src.length → src.length - i < m → itr L m (mk i) = F (i + fnd P (src.drop i))
 | 0, i, _, h => by omega
 | m + 1, i, hi, h => by
  show L (itr L m) (mk i) = _
  by_cases hl : i < src.length
  ·rw [fnd_drop P hl]
   cases hp : P src[i]
   ·rw [if_neg (by simp), step _ i hl hp, scan mk src P F step hit fin m (i + 1) (by omega) (by omega), Nat.add_assoc]
   ·rw [if_pos rfl, hit _ i hl hp]; rfl
  ·have : i = src.length := by omega
   subst this
   rw [fin, fnd_end]; rfl
theorem scanLF {σ R : Type} {L : (σ → Option R) → σ → Option R} (mk : Nat → σ) (src : List UInt8) (P : UInt8 → Bool) (F : Nat → Option R) (hl : src.length ≤ 1000000000)
 (step : ∀ go (i : Nat) (hi : i < src.length), P src[i] = false → L go (mk i) = go (mk (i + 1)))
 (hit : ∀ go (i : Nat) (hi : i < src.length), P src[i] = true → L go (mk i) = F i)
 (fin : ∀ go, L go (mk src.length) = F src.length) (i : Nat) (hi : i ≤ src.length) : itr L LF (mk i) = F (i + fnd P (src.drop i)) := by
 rw [LF_eq]; exact scan mk src P F step hit fin _ i hi (by omega)
def isB (n : Int) (b : UInt8) : Bool := decide ((b.toNat : Int) = n)
theorem isB_eq (b : UInt8) : isB 32 b = decide (b = 32) := byte_eq b 32 (by omega)
theorem oB : ∀ s : List UInt8, Go.Lib.index s [32] = if fnd (isB 32) s < s.length then ((fnd (isB 32) s : Nat) : Int) else -1
 | [] => rfl
 | b :: l => by
  have ih := oB l
  have e := isB_eq b
  unfold Go.Lib.index
  by_cases hb : b = 32
  ·have f1 : fnd (isB 32) (b :: l) = 0 := by rw [fnd_cons, e, decide_eq_true hb, if_pos rfl]
   rw [f1, if_pos (by rw [hb]; simp), if_pos (by simp)]; rfl
  ·have f1 : fnd (isB 32) (b :: l) = 1 + fnd (isB 32) l := by rw [fnd_cons, e, decide_eq_false hb, if_neg (by simp)]
   have hp : ¬ ([32] : List UInt8).isPrefixOf (b :: l) = true := by
    simp [List.isPrefixOf]; exact fun h => hb h.symm
   rw [if_neg hp, ih, f1]
   have hle := nQ (isB 32) l
   by_cases hl : fnd (isB 32) l < l.length
   ·have e1 : ¬ ((((fnd (isB 32) l : Nat) : Int) == -1) = true) := by simp
    rw [if_pos hl, if_pos (show 1 + fnd (isB 32) l < (b :: l).length by rw [List.length_cons]; omega), if_neg e1]
    omega
   ·rw [if_neg hl, if_neg (show ¬ 1 + fnd (isB 32) l < (b :: l).length by rw [List.length_cons]; omega)]; rfl
def words (s : List UInt8) : List UInt8 × List UInt8 := if fnd (isB 32) s < s.length then (s.take (fnd (isB 32) s), s.drop (fnd (isB 32) s + 1)) else (s, [])
theorem x_Cut_eq (s : List UInt8) (h : s.length ≤ 1048576) : ∃ f, x_Cut s [32] = some ((words s).1, (words s).2, f) := by
 unfold x_Cut Go.Lib.cut words
 rw [j3 (by omega), oB]
 by_cases hl : fnd (isB 32) s < s.length
 ·rw [if_pos hl, if_pos (by omega), if_pos hl, Int.toNat_natCast]; exact ⟨_, rfl⟩
 ·rw [if_neg hl, if_neg (by omega), if_neg hl]; exact ⟨_, rfl⟩
theorem mN (s : List UInt8) (h : s.length ≤ 1048576) : V7 s = some (words s) := by
 unfold V7
 have key := scanLF (L := Y3 s) (fun i => (i : Int)) s (isB 32) (fun e => if e < s.length then some (s.take e, s.drop (e + 1)) else some (s, [])) (by omega) (fun go i hi hp => ?_) (fun go i hi hp => ?_) (fun go => ?_) 0 (Nat.zero_le _)
 ·refine key.trans ?_
  rw [Nat.zero_add, List.drop_zero]
  unfold words
  split <;> rfl
 ·show u3 s go (i : Int) = _
  unfold u3
  have hp' : ¬ ((s[i]).toNat : Int) = 32 := by unfold isB at hp; simpa using hp
  rw [if_pos (by omega), l6 hi, f5, if_neg hp', j3 (by omega)]; rfl
 ·show u3 s go (i : Int) = _
  unfold u3
  have hp' : ((s[i]).toNat : Int) = 32 := by unfold isB at hp; simpa using hp
  have e : ((i : Int) + 1).toNat = i + 1 := by omega
  rw [if_pos (by omega), l6 hi, f5, if_pos hp', j3 (by omega), j3 (by omega), j3 (by omega), Int.toNat_natCast, e, if_pos hi]
 ·show u3 s go (s.length : Int) = _
  unfold u3
  rw [if_neg (by omega), if_neg (by omega)]
theorem words_len (s : List UInt8) : (words s).2.length ≤ s.length := by
 unfold words
 split
 ·simp
 ·simp
theorem dC (d : PD) (r : List PD) : cnts (d :: r) = 1 + d.cnt + cnts r := by rw [cnts]
theorem depths_cons (d : PD) (r : List PD) : depths (d :: r) = max d.depth (depths r) := by rw [depths]
theorem okAlls_cons (d : PD) (r : List PD) : okAlls (d :: r) = (d.okAll && okAlls r) := by rw [okAlls]
theorem W6 : ∀ a b : List PD, cnts (a ++ b) = cnts a + cnts b
 | [], b => by simp [cnts]
 | x :: a, b => by
  have := W6 a b
  rw [List.cons_append, dC, dC]
  omega
theorem bR (d : PD) : cnts [d] = d.cnt + 1 := by rw [dC]; show 1 + d.cnt + 0 = _; omega
def areD (ds : List PD) : Bool := (measL ds 1 0).1
theorem areD_iff (ds : List PD) : areD ds = true ↔ depths ds ≤ 20 ∧ (cnts ds : Int) ≤ 600 ∧ okAlls ds = true := by
 unfold areD
 rw [(bA.2 ds 1 0 (by omega) (by omega)).1]
 constructor
 ·rintro ⟨h1, h2, h3⟩; exact ⟨by omega, by omega, h3⟩
 ·rintro ⟨h1, h2, h3⟩; exact ⟨by omega, by omega, h3⟩
theorem hD : ∀ ds : List PD, (cnts ds : Int) ≤ 600 → (ds.all valid = true ↔ depths ds ≤ 20 ∧ okAlls ds = true)
 | [], _ => by simp [depths, okAlls]
 | d :: r, h => by
  have hc : cnts (d :: r) = d.cnt + 1 + cnts r := by have := W6 [d] r; rw [bR] at this; exact this
  have ih := hD r (by omega)
  rw [List.all_cons, Bool.and_eq_true, ih]
  rw [depths_cons, okAlls_cons]
  unfold valid
  simp only [Bool.and_eq_true, decide_eq_true_eq]
  constructor
  ·rintro ⟨⟨h1, h2, h3⟩, h4, h5⟩; exact ⟨by omega, h3, h5⟩
  ·rintro ⟨h1, h2, h3⟩; exact ⟨⟨by omega, by omega, h2⟩, by omega, h3⟩
theorem nU (ds : List PD) (hs : ∀ x ∈ ds, x.small) (hl : ds.length ≤ 1048576) : aM ds = some (areD ds) := by
 unfold aM areD
 rw [gP (L := aN ds) ds.length (fun i a => 0 ≤ a ∧ a ≤ 600) (fun i a => some (measL (ds.drop i) 1 a).1) (by omega) (fun go i a hi ha hgo => ?_) (fun go a ha => ?_) (by omega)]
 ·rfl
 ·show C4 ds go i a = _
  unfold C4
  have hsm := hs _ (List.getElem_mem hi)
  rw [if_pos (by omega), l6 hi, f5, aT RF _ 1 a (RF_cnt hsm) hsm (by omega) (by omega) ha.1 ha.2, f5, List.drop_eq_getElem_cons hi, measL]
  by_cases hm : (meas ds[i] 1 a).1 = true
  ·have h1 := (bA.1 ds[i] 1 a)
   have h2 := h1.1.1 hm
   have h3 := h1.2 hm
   rw [if_pos hm, if_pos hm, j3 (by omega), hgo _ ⟨by omega, by omega⟩]
  ·rw [if_neg hm, if_neg hm]
 ·show C4 ds go _ a = _
  unfold C4
  rw [if_neg (by omega), List.drop_length]; rfl
theorem bF : ∀ (n : Nat) (d : PD), d.cnt < n → d.small → l0 n d = some ((d.cnt : Int) + 1)
 | 0, d, h, _ => by omega
 | n + 1, d, h, hd => by
  show I0 (l0 n) d = _
  unfold I0
  have hs := K9 hd
  have hc := hd.2
  have hcc := cnt_eq d
  refine (fV (L := R4 (l0 n) d) (fun v => some (v.1 + (cnts (d.items.drop v.2.toNat) : Int))) (fun v => (0 ≤ v.2 ∧ v.2 ≤ d.items.length) ∧ 0 ≤ v.1 ∧ v.1 + (cnts (d.items.drop v.2.toNat) : Int) ≤ 2000000) (fun v => d.items.length - v.2.toNat) (fun go v hv hgo => ?_) (1, 0) ⟨⟨Int.le_refl _, by show (0 : Int) ≤ _; omega⟩, by show (0 : Int) ≤ 1; omega, by show (1 : Int) + (cnts (d.items.drop 0) : Int) ≤ _; rw [List.drop_zero]; omega⟩ (by show d.items.length - 0 < _; omega)).trans ?_
  ·obtain ⟨a, j⟩ := v
   obtain ⟨⟨h0, h1⟩, h2, h3⟩ := hv
   dsimp only at h0 h1 h2 h3 ⊢
   obtain ⟨i, rfl⟩ := Int.eq_ofNat_of_zero_le h0
   simp only [Int.ofNat_eq_natCast, Int.toNat_natCast] at *
   show D7 (l0 n) d go a (i : Int) = _
   unfold D7
   by_cases hi : i < d.items.length
   ·have hit := q8 hd hi
    rw [List.drop_eq_getElem_cons hi] at h3 ⊢
    have hx : cnts (d.items[i] :: d.items.drop (i + 1)) = d.items[i].cnt + 1 + cnts (d.items.drop (i + 1)) := by have := W6 [d.items[i]] (d.items.drop (i + 1)); rw [bR] at this; exact this
    rw [hx] at h3 ⊢
    have e2 : ((i : Int) + 1).toNat = i + 1 := by omega
    rw [if_pos (by omega), l6 hi, f5, bF n _ (by omega) hit.1, f5, j3 (by omega), j3 (by omega), hgo (a + (d.items[i].cnt + 1 : Int), (i : Int) + 1) ⟨⟨by dsimp only; omega, by dsimp only; omega⟩, by dsimp only; omega, by dsimp only; rw [e2]; omega⟩ (by dsimp only; omega)]
    dsimp only
    rw [e2]
    exact congrArg some (by omega)
   ·have : i = d.items.length := by omega
    subst this
    rw [if_neg (by omega), List.drop_length]
    simp [cnts]
  ·show some ((1 : Int) + (cnts (d.items.drop 0) : Int)) = _
   rw [List.drop_zero, ← hcc]
   exact congrArg some (by omega)
def leS (a : Int) (l : List PD) : Bool := l.all valid && decide (a + (cnts l : Int) ≤ 600)
theorem oS (ds : List PD) (hs : ∀ x ∈ ds, x.small) (hc : cnts ds ≤ 1048576) : bD ds = some (areD ds) := by
 unfold bD
 have hl := cnts_len ds
 have e : areD ds = (ds.all valid && decide ((cnts ds : Int) ≤ 600)) := by
  rw [Bool.eq_iff_iff, areD_iff, Bool.and_eq_true, decide_eq_true_eq]
  constructor
  ·rintro ⟨h1, h2, h3⟩; exact ⟨(hD ds h2).2 ⟨h1, h3⟩, h2⟩
  ·rintro ⟨h1, h2⟩
   have h3 := (hD ds h2).1 h1
   exact ⟨h3.1, h2, h3.2⟩
 rw [e]
 refine (fV (L := bE ds) (fun v => some (leS v.1 (ds.drop v.2.toNat))) (fun v => (0 ≤ v.2 ∧ v.2 ≤ ds.length) ∧ 0 ≤ v.1 ∧ v.1 + (cnts (ds.drop v.2.toNat) : Int) ≤ 2000000) (fun v => ds.length - v.2.toNat) (fun go v hv hgo => ?_) (0, 0) ⟨⟨Int.le_refl _, by show (0 : Int) ≤ _; omega⟩, by show (0 : Int) ≤ 0; omega, by show (0 : Int) + (cnts (ds.drop 0) : Int) ≤ _; rw [List.drop_zero]; omega⟩ (by show ds.length - 0 < _; omega)).trans ?_
 ·obtain ⟨a, j⟩ := v
  obtain ⟨⟨h0, h1⟩, h2, h3⟩ := hv
  dsimp only at h0 h1 h2 h3 ⊢
  obtain ⟨i, rfl⟩ := Int.eq_ofNat_of_zero_le h0
  simp only [Int.ofNat_eq_natCast, Int.toNat_natCast] at *
  show K5 ds go a (i : Int) = _
  unfold K5
  by_cases hi : i < ds.length
  ·have hsm := hs _ (List.getElem_mem hi)
   rw [List.drop_eq_getElem_cons hi] at h3 ⊢
   have hx : cnts (ds[i] :: ds.drop (i + 1)) = ds[i].cnt + 1 + cnts (ds.drop (i + 1)) := by have := W6 [ds[i]] (ds.drop (i + 1)); rw [bR] at this; exact this
   rw [hx] at h3
   have e2 : ((i : Int) + 1).toNat = i + 1 := by omega
   rw [if_pos (by omega), l6 hi, f5, fW _ hsm, f5]
   have hL : leS a (ds[i] :: ds.drop (i + 1)) = (valid ds[i] && leS (a + (ds[i].cnt + 1 : Int)) (ds.drop (i + 1))) := by
    unfold leS
    rw [List.all_cons, hx, Bool.and_assoc]
    congr 2
    exact decide_eq_decide.2 (by omega)
   rw [hL]
   cases hv : valid ds[i]
   ·simp
   ·rw [if_pos rfl, bF RF _ (RF_cnt hsm) hsm, f5, j3 (by omega), j3 (by omega), hgo (a + (ds[i].cnt + 1 : Int), (i : Int) + 1) ⟨⟨by dsimp only; omega, by dsimp only; omega⟩, by dsimp only; omega, by dsimp only; rw [e2]; omega⟩ (by dsimp only; omega)]
    dsimp only
    rw [e2, Bool.true_and]
  ·have : i = ds.length := by omega
   subst this
   rw [if_neg (by omega), List.drop_length]
   unfold leS
   simp [cnts]
 ·show some (leS 0 (ds.drop 0)) = _
  rw [List.drop_zero]
  unfold leS
  simp
end Go.Abs

namespace Go.Abs
open PD
def blank (b : UInt8) : Bool := isB 32 b || (isB 10 b || isB 9 b)
def skN (src : List UInt8) : Nat → Nat → Nat
 | 0, p => p
 | m + 1, p => if h : p < src.length then (if blank src[p] = true then skN src m (p + 1) else if isB 59 src[p] = true then skN src m (p + fnd (isB 10) (src.drop p)) else p) else p
def sk (src : List UInt8) (p : Nat) : Nat := skN src (src.length + 1) p
theorem com_pos {src : List UInt8} {p : Nat} (h : p < src.length) (h9 : isB 59 src[p] = true) : 1 ≤ fnd (isB 10) (src.drop p) ∧ p + fnd (isB 10) (src.drop p) ≤ src.length := by
 have h1 := nQ (isB 10) (src.drop p)
 rw [List.length_drop] at h1
 rw [fnd_drop _ h] at h1 ⊢
 have h2 : isB 10 src[p] = false := by
  unfold isB at h9 ⊢
  simp only [decide_eq_true_eq] at h9
  simp; omega
 rw [h2, if_neg (by simp)] at h1 ⊢
 omega
theorem skN_le (src : List UInt8) : ∀ (m p : Nat), p ≤ src.length → p ≤ skN src m p ∧ skN src m p ≤ src.length
 | 0, p, h => ⟨Nat.le_refl _, h⟩
 | m + 1, p, h => by
  unfold skN
  split
  ·rename_i hp
   split
   ·have := skN_le src m (p + 1) (by omega); omega
   ·split
    ·rename_i h9
     have h1 := com_pos hp h9
     have := skN_le src m _ h1.2; omega
    ·omega
  ·omega
theorem sk_le {src : List UInt8} {p : Nat} (h : p ≤ src.length) : p ≤ sk src p ∧ sk src p ≤ src.length := skN_le src _ p h
theorem eN {σ R : Type} {L : (σ → Option R) → σ → Option R} (mk : Nat → σ) (src : List UInt8) (F : Nat → Option R)
 (step : ∀ go (i : Nat) (hi : i < src.length), blank src[i] = true → L go (mk i) = go (mk (i + 1)))
 (com : ∀ go (i : Nat) (hi : i < src.length), blank src[i] = false → isB 59 src[i] = true → L go (mk i) = go (mk (i + fnd (isB 10) (src.drop i))))
 (hit : ∀ go (i : Nat) (hi : i < src.length), blank src[i] = false → isB 59 src[i] = false → L go (mk i) = F i)
 (fin : ∀ go, L go (mk src.length) = F src.length) : ∀ (m M i : Nat), i ≤ src.length → src.length - i < m → src.length - i < M → itr L M (mk i) = F (skN src m i)
 | 0, M, i, _, h, _ => by omega
 | m + 1, 0, i, _, _, h => by omega
 | m + 1, M + 1, i, hi, h, h' => by
  show L (itr L M) (mk i) = _
  unfold skN
  by_cases hl : i < src.length
  ·rw [dif_pos hl]
   cases hb : blank src[i]
   ·rw [if_neg (by simp)]
    cases hc : isB 59 src[i]
    ·rw [if_neg (by simp), hit _ i hl hb hc]
    ·have h1 := com_pos hl hc
     rw [if_pos rfl, com _ i hl hb hc, eN mk src F step com hit fin m M _ h1.2 (by omega) (by omega)]
   ·rw [if_pos rfl, step _ i hl hb, eN mk src F step com hit fin m M (i + 1) (by omega) (by omega) (by omega)]
  ·have : i = src.length := by omega
   subst this
   rw [dif_neg hl, fin]
theorem U3 {n : Int} {b : UInt8} (h : isB n b = true) : (b.toNat : Int) = n := by unfold isB at h; simpa using h
theorem R0 {n : Int} {b : UInt8} (h : isB n b = false) : ¬ (b.toNat : Int) = n := by unfold isB at h; simpa using h
theorem aU (src : List UInt8) (hl : src.length ≤ 1000000) (p : Nat) (hp : p ≤ src.length) (k : Int) : C7 (PRdI.mk src (p : Int) k) = some (PRdI.mk src (sk src p : Nat) k) := by
 unfold C7 sk
 rw [LF_eq]
 refine eN (L := O4) (fun i => PRdI.mk src (i : Int) k) src (fun e => some (PRdI.mk src (e : Int) k)) (fun go i hi hb => ?_) (fun go i hi hb hc => ?_) (fun go i hi hb hc => ?_) (fun go => ?_) _ _ p hp (by omega) (by omega)
 ·show l9 go (PRdI.mk src (i : Int) k) = _
  unfold l9
  dsimp only
  rw [if_pos (by omega), l6 hi, f5]
  unfold p8
  dsimp only
  have hx : I64 ((i : Int) + 1) := by show _ ∧ _; omega
  unfold blank at hb
  cases h1 : isB 32 src[i]
  ·rw [if_neg (R0 h1)]
   cases h2 : isB 10 src[i]
   ·rw [if_neg (R0 h2)]
    rw [h1, h2, Bool.false_or, Bool.false_or] at hb
    rw [if_pos (show decide (((src[i]).toNat : Int) = 9) = true from hb), j3 hx]; rfl
   ·rw [if_pos (U3 h2), if_pos rfl, j3 hx]; rfl
  ·rw [if_pos (U3 h1), if_pos rfl, j3 hx]; rfl
 ·show l9 go (PRdI.mk src (i : Int) k) = _
  unfold l9
  dsimp only
  unfold blank at hb
  rw [Bool.or_eq_false_iff, Bool.or_eq_false_iff] at hb
  rw [if_pos (by omega), l6 hi, f5, if_neg (R0 hb.1), if_neg (R0 hb.2.1)]
  unfold p8
  rw [if_neg (show ¬ decide (((src[i]).toNat : Int) = 9) = true from fun h => by rw [show decide (((src[i]).toNat : Int) = 9) = isB 9 src[i] from rfl, hb.2.2] at h; cases h), if_pos (U3 hc)]
  refine scanLF (L := O5 go) (fun j => PRdI.mk src (j : Int) k) src (isB 10) (fun e => go (PRdI.mk src (e : Int) k)) (by omega) (fun go7 j hj hq => ?_) (fun go7 j hj hq => ?_) (fun go7 => ?_) i (by omega)
  ·show o3 go go7 (PRdI.mk src (j : Int) k) = _
   unfold o3 s7
   dsimp only
   rw [if_pos (by omega), l6 hj, f5, if_pos (show (!decide (((src[j]).toNat : Int) = 10)) = true by rw [show decide (((src[j]).toNat : Int) = 10) = isB 10 src[j] from rfl, hq]; rfl), j3 (by show _ ∧ _; omega)]; rfl
  ·show o3 go go7 (PRdI.mk src (j : Int) k) = _
   unfold o3 s7
   dsimp only
   rw [if_pos (by omega), l6 hj, f5, if_neg (show ¬ (!decide (((src[j]).toNat : Int) = 10)) = true by rw [show decide (((src[j]).toNat : Int) = 10) = isB 10 src[j] from rfl, hq]; simp)]
  ·show o3 go go7 (PRdI.mk src (src.length : Int) k) = _
   unfold o3 s7
   dsimp only
   rw [if_neg (by omega), if_neg (by simp)]
 ·show l9 go (PRdI.mk src (i : Int) k) = _
  unfold l9
  dsimp only
  unfold blank at hb
  rw [Bool.or_eq_false_iff, Bool.or_eq_false_iff] at hb
  rw [if_pos (by omega), l6 hi, f5, if_neg (R0 hb.1), if_neg (R0 hb.2.1)]
  unfold p8
  rw [if_neg (show ¬ decide (((src[i]).toNat : Int) = 9) = true from fun h => by rw [show decide (((src[i]).toNat : Int) = 9) = isB 9 src[i] from rfl, hb.2.2] at h; cases h), if_neg (R0 hc)]
 ·show l9 go (PRdI.mk src (src.length : Int) k) = _
  unfold l9
  dsimp only
  rw [if_neg (by omega)]
theorem N7 (b : UInt8) : V8 (b.toNat : Int) = some (blank b) := by
 unfold V8 blank
 cases h1 : isB 32 b
 ·rw [if_neg (R0 h1)]
  cases h2 : isB 10 b
  ·rw [if_neg (R0 h2)]; rfl
  ·rw [if_pos (U3 h2)]; rfl
 ·rw [if_pos (U3 h1)]; rfl
theorem W1 (src : List UInt8) (hl : src.length ≤ 1000000) (p : Nat) (hp : p ≤ src.length) (b : Bool) : G6 (PRdS.mk src (p : Int) b) = some (PRdS.mk src (sk src p : Nat) b) := by
 unfold G6 sk
 rw [LF_eq]
 refine eN (L := cY) (fun i => PRdS.mk src (i : Int) b) src (fun e => some (PRdS.mk src (e : Int) b)) (fun go i hi hb => ?_) (fun go i hi hb hc => ?_) (fun go i hi hb hc => ?_) (fun go => ?_) _ _ p hp (by omega) (by omega)
 ·show r8 go (PRdS.mk src (i : Int) b) = _
  unfold r8
  dsimp only
  rw [if_pos (by omega), l6 hi, f5, N7, f5, if_pos hb]
  unfold y6
  dsimp only
  have h9 : isB 59 src[i] = false := by
   cases h : isB 59 src[i]
   ·rfl
   ·have h1 := U3 h
    unfold blank at hb
    rw [Bool.or_eq_true, Bool.or_eq_true] at hb
    rcases hb with hb | hb | hb <;> have h2 := U3 hb <;> omega
  rw [if_pos rfl, l6 hi, f5, if_neg (R0 h9), j3 (by show _ ∧ _; omega)]; rfl
 ·show r8 go (PRdS.mk src (i : Int) b) = _
  unfold r8
  dsimp only
  rw [if_pos (by omega), l6 hi, f5, N7, f5, if_neg (by rw [hb]; simp), f5]
  unfold y6
  dsimp only
  rw [if_pos (show decide (((src[i]).toNat : Int) = 59) = true from hc), l6 hi, f5, if_pos (U3 hc)]
  refine scanLF (L := cZ go) (fun j => PRdS.mk src (j : Int) b) src (isB 10) (fun e => go (PRdS.mk src (e : Int) b)) (by omega) (fun go7 j hj hq => ?_) (fun go7 j hj hq => ?_) (fun go7 => ?_) i (by omega)
  ·show A0 go go7 (PRdS.mk src (j : Int) b) = _
   unfold A0 F7
   dsimp only
   rw [if_pos (by omega), l6 hj, f5, if_pos (show (!decide (((src[j]).toNat : Int) = 10)) = true by rw [show decide (((src[j]).toNat : Int) = 10) = isB 10 src[j] from rfl, hq]; rfl), j3 (by show _ ∧ _; omega)]; rfl
  ·show A0 go go7 (PRdS.mk src (j : Int) b) = _
   unfold A0 F7
   dsimp only
   rw [if_pos (by omega), l6 hj, f5, if_neg (show ¬ (!decide (((src[j]).toNat : Int) = 10)) = true by rw [show decide (((src[j]).toNat : Int) = 10) = isB 10 src[j] from rfl, hq]; simp)]
  ·show A0 go go7 (PRdS.mk src (src.length : Int) b) = _
   unfold A0 F7
   dsimp only
   rw [if_neg (by omega), if_neg (by simp)]
 ·show r8 go (PRdS.mk src (i : Int) b) = _
  unfold r8
  dsimp only
  rw [if_pos (by omega), l6 hi, f5, N7, f5, if_neg (by rw [hb]; simp), f5]
  unfold y6
  rw [if_neg (show ¬ decide (((src[i]).toNat : Int) = 59) = true from fun h => by rw [show decide (((src[i]).toNat : Int) = 59) = isB 59 src[i] from rfl, hc] at h; cases h)]
 ·show r8 go (PRdS.mk src (src.length : Int) b) = _
  unfold r8
  dsimp only
  rw [if_neg (by omega)]
  unfold y6
  rw [if_neg (by simp)]
theorem kT (src : List UInt8) (hl : src.length ≤ 1000000) (pos : Int) (h0 : 0 ≤ pos) (b : Bool) : ∃ pos', G6 (PRdS.mk src pos b) = some (PRdS.mk src pos' b) ∧ 0 ≤ pos' ∧ (pos' ≤ pos ∨ pos' ≤ (src.length : Int)) := by
 by_cases h : pos ≤ (src.length : Int)
 ·obtain ⟨p, rfl⟩ := Int.eq_ofNat_of_zero_le h0
  have hp : p ≤ src.length := by omega
  have h2 := sk_le hp
  exact ⟨_, W1 src hl p hp b, by omega, .inr (by omega)⟩
 ·refine ⟨pos, ?_, h0, .inl (Int.le_refl _)⟩
  unfold G6
  rw [LF_eq]
  show r8 _ (PRdS.mk src pos b) = _
  unfold r8
  dsimp only
  rw [if_neg (by omega)]
  unfold y6
  rw [if_neg (by simp)]
def ends (b : UInt8) : Bool := blank b || (isB 40 b || (isB 41 b || (isB 34 b || (isB 59 b || isB 39 b))))
theorem fS (b : UInt8) : aO (b.toNat : Int) = some (ends b) := by
 unfold aO ends blank
 cases h1 : isB 32 b
 ·rw [if_neg (R0 h1)]
  cases h2 : isB 10 b
  ·rw [if_neg (R0 h2)]
   cases h3 : isB 9 b
   ·rw [if_neg (R0 h3)]
    cases h4 : isB 40 b
    ·rw [if_neg (R0 h4)]
     cases h5 : isB 41 b
     ·rw [if_neg (R0 h5)]
      cases h6 : isB 34 b
      ·rw [if_neg (R0 h6)]
       cases h7 : isB 59 b
       ·rw [if_neg (R0 h7)]
        cases h8 : isB 39 b
        ·rw [if_neg (R0 h8)]; rfl
        ·rw [if_pos (U3 h8)]; rfl
       ·rw [if_pos (U3 h7)]; rfl
      ·rw [if_pos (U3 h6)]; rfl
     ·rw [if_pos (U3 h5)]; rfl
    ·rw [if_pos (U3 h4)]; rfl
   ·rw [if_pos (U3 h3)]; rfl
  ·rw [if_pos (U3 h2)]; rfl
 ·rw [if_pos (U3 h1)]; rfl
theorem jK (b : UInt8) : eC (b.toNat : Int) = some (isB 40 b || (isB 41 b || (isB 34 b || (isB 59 b || isB 39 b)))) := by
 unfold eC
 cases h4 : isB 40 b
 ·rw [if_neg (R0 h4)]
  cases h5 : isB 41 b
  ·rw [if_neg (R0 h5)]
   cases h6 : isB 34 b
   ·rw [if_neg (R0 h6)]
    cases h7 : isB 59 b
    ·rw [if_neg (R0 h7)]; rfl
    ·rw [if_pos (U3 h7)]; rfl
   ·rw [if_pos (U3 h6)]; rfl
  ·rw [if_pos (U3 h5)]; rfl
 ·rw [if_pos (U3 h4)]; rfl
def atomD (w : List UInt8) : Option PD :=
 if (numS w).2 = true then some (PD.mk 2 (numS w).1 [] []) else if w = [35, 116] then some (PD.mk 3 1 [] []) else if w = [35, 102] then some (PD.mk 3 0 [] []) else if isSymbol w = true then some (PD.mk 1 0 w []) else none
def zD : PD := PD.mk 0 0 ([] : List UInt8) []
def atI (o : Option PD) : PD × Bool := match o with
 | some d => (d, true)
 | none => (zD, false)
theorem i_atomOf_eq (w : List UInt8) (h : SM w) : bV w = some (atI (atomD w)) := by
 unfold bV atomD
 rw [Z7 w h, f5]
 by_cases h1 : (numS w).2 = true
 ·rw [if_pos h1, if_pos h1]; rfl
 ·rw [if_neg h1, if_neg h1]
  by_cases h2 : w = [35, 116]
  ·rw [if_pos h2, if_pos h2]; rfl
  ·rw [if_neg h2, if_neg h2]
   by_cases h3 : w = [35, 102]
   ·rw [if_pos h3, if_pos h3]; rfl
   ·rw [if_neg h3, if_neg h3, dN w h, f5]
    by_cases h4 : isSymbol w = true
    ·rw [if_pos h4, if_pos h4]; rfl
    ·rw [if_neg h4, if_neg h4]; rfl
def word (src : List UInt8) (p e : Nat) : List UInt8 := (src.take e).drop p
theorem cE (src : List UInt8) (p e : Nat) : (word src p e).length ≤ e - p := by unfold word; simp; omega
theorem atomD_nil : atomD [] = none := by
 unfold atomD
 rfl
theorem atomD_w {w : List UInt8} {d : PD} (h : atomD w = some d) : wD d ≤ w.length ∧ d.cnt = 0 := by
 unfold atomD at h
 split at h
 ·cases h; exact ⟨by show 0 ≤ _; omega, rfl⟩
 ·split at h
  ·cases h; exact ⟨by show 0 ≤ _; omega, rfl⟩
  ·split at h
   ·cases h; exact ⟨by show 0 ≤ _; omega, rfl⟩
   ·split at h
    ·cases h; exact ⟨by show w.length + 0 ≤ _; omega, rfl⟩
    ·cases h
def endW (src : List UInt8) (p : Nat) : Nat := p + fnd ends (src.drop p)
theorem endW_le {src : List UInt8} {p : Nat} (h : p ≤ src.length) : p ≤ endW src p ∧ endW src p ≤ src.length := by
 have := nQ ends (src.drop p)
 rw [List.length_drop] at this
 unfold endW; omega
theorem s_l1Atom_eq (src : List UInt8) (hl : src.length ≤ 1000000) (p : Nat) (hp : p ≤ src.length) :
 eB (PRdS.mk src (p : Int) false) = some (match atomD (word src p (endW src p)) with | some d => (d, PRdS.mk src (endW src p : Nat) false) | none => (zD, PRdS.mk src (endW src p : Nat) true)) := by
 unfold eB
 have hJ : ∀ go (e : Nat), p ≤ e → e ≤ src.length → D2 (PRdS.mk src (p : Int) false) (PRdS.mk src (e : Int) false) go false = some (match atomD (word src p e) with | some d => (d, PRdS.mk src (e : Int) false) | none => (zD, PRdS.mk src (e : Int) true)) := fun go e h1 h2 => by
  unfold D2
  dsimp only
  rw [Int.toNat_natCast, Int.toNat_natCast]
  show (if false = true then _ else chk _ (bnd (D0 (word src p e)) fun x5 => _)) = _
  have hw := cE src p e
  have hS : SM (word src p e) := by unfold SM; omega
  have hr := numS_range (word src p e)
  rw [if_neg (by simp), j3 (by omega), aC _ hS, f5]
  unfold atomD
  by_cases q1 : (numS (word src p e)).2 = true
  ·rw [if_pos q1, if_pos q1]
   unfold P4
   have hi : inside (numS (word src p e)).1 (-999999999) 999999999 = true := by unfold inside; simp; omega
   rw [eE, f5, if_pos hi, f5]
  ·rw [if_neg q1, if_neg q1]
   show (if word src p e = [35, 116] then _ else if word src p e = [35, 102] then _ else _) = _
   by_cases q2 : word src p e = [35, 116]
   ·rw [if_pos q2, if_pos q2]
    show bnd (E3 (decide (word src p e = [35, 116]))) _ = _
    rw [q2]; rfl
   ·rw [if_neg q2, if_neg q2]
    by_cases q3 : word src p e = [35, 102]
    ·rw [if_pos q3, if_pos q3]
     show bnd (E3 (decide (word src p e = [35, 116]))) _ = _
     rw [q3]; rfl
    ·rw [if_neg q3, if_neg q3]
     show bnd (G5 (word src p e)) _ = _
     rw [P3 _ hS, f5]
     by_cases q4 : isSymbol (word src p e) = true
     ·rw [if_pos q4, if_pos q4]
      unfold D1
      show bnd (bnd (G5 (word src p e)) _) _ = _
      rw [P3 _ hS, f5, if_pos q4, f5]; rfl
     ·rw [if_neg q4, if_neg q4]; rfl
 have key := scanLF (L := cU (PRdS.mk src (p : Int) false)) (fun j => PRdS.mk src ((p + j : Nat) : Int) false) (src.drop p) ends (fun e => some (match atomD (word src p (p + e)) with | some d => (d, PRdS.mk src ((p + e : Nat) : Int) false) | none => (zD, PRdS.mk src ((p + e : Nat) : Int) true))) (by rw [List.length_drop]; omega) (fun go j hj hq => ?_) (fun go j hj hq => ?_) (fun go => ?_) 0 (Nat.zero_le _)
 ·simpa [endW] using key
 ·rw [List.length_drop] at hj
  have hpj : p + j < src.length := by omega
  rw [List.getElem_drop] at hq
  unfold ends at hq
  rw [Bool.or_eq_false_iff] at hq
  show z7 (PRdS.mk src (p : Int) false) go (PRdS.mk src ((p + j : Nat) : Int) false) = _
  unfold z7
  dsimp only
  rw [if_pos (by omega), l6 hpj, f5, N7, f5, if_neg (by rw [hq.1]; simp), f5, jK, f5, hq.2]
  unfold D2
  dsimp only
  rw [if_pos (show (!false) = true from rfl), j3 (by show _ ∧ _; omega)]; rfl
 ·rw [List.length_drop] at hj
  have hpj : p + j < src.length := by omega
  rw [List.getElem_drop] at hq
  unfold ends at hq
  show z7 (PRdS.mk src (p : Int) false) go (PRdS.mk src ((p + j : Nat) : Int) false) = _
  unfold z7
  dsimp only
  rw [if_pos (by omega), l6 hpj, f5, N7, f5]
  cases hb : blank src[p + j]
  ·rw [hb, Bool.false_or] at hq
   rw [if_neg (by simp), f5, jK, f5, hq]
   exact hJ go (p + j) (by omega) (by omega)
  ·rw [if_pos rfl]
   exact hJ go (p + j) (by omega) (by omega)
 ·show z7 (PRdS.mk src (p : Int) false) go (PRdS.mk src ((p + (src.drop p).length : Nat) : Int) false) = _
  unfold z7
  dsimp only
  rw [List.length_drop, if_neg (by omega)]
  exact hJ go (p + (src.length - p)) (by omega) (by omega)
theorem i_atom_eq (src : List UInt8) (hl : src.length ≤ 1000000) (p : Nat) (hp : p ≤ src.length) (k0 k : Int) :
 itr (B2 (PRdI.mk src (p : Int) k0)) LF (PRdI.mk src (p : Int) k) = some ((atI (atomD (word src p (endW src p)))).1, (atI (atomD (word src p (endW src p)))).2, PRdI.mk src (endW src p : Nat) k) := by
 have hJ : ∀ go (e : Nat), p ≤ e → e ≤ src.length → p9 (PRdI.mk src (p : Int) k0) (PRdI.mk src (e : Int) k) go false = some ((atI (atomD (word src p e))).1, (atI (atomD (word src p e))).2, PRdI.mk src (e : Int) k) := fun go e h1 h2 => by
  unfold p9
  dsimp only
  rw [Int.toNat_natCast, Int.toNat_natCast]
  have hw := cE src p e
  have hS : SM (word src p e) := by unfold SM; omega
  show (if false = true then _ else chk _ (bnd (bV (word src p e)) fun x8 => _)) = _
  rw [if_neg (by simp), j3 (by omega), i_atomOf_eq _ hS, f5]
 have key := scanLF (L := B2 (PRdI.mk src (p : Int) k0)) (fun j => PRdI.mk src ((p + j : Nat) : Int) k) (src.drop p) ends (fun e => some ((atI (atomD (word src p (p + e)))).1, (atI (atomD (word src p (p + e)))).2, PRdI.mk src ((p + e : Nat) : Int) k)) (by rw [List.length_drop]; omega) (fun go j hj hq => ?_) (fun go j hj hq => ?_) (fun go => ?_) 0 (Nat.zero_le _)
 ·simpa [endW] using key
 ·rw [List.length_drop] at hj
  have hpj : p + j < src.length := by omega
  rw [List.getElem_drop] at hq
  show n5 (PRdI.mk src (p : Int) k0) go (PRdI.mk src ((p + j : Nat) : Int) k) = _
  unfold n5
  dsimp only
  rw [if_pos (by omega), l6 hpj, f5, fS, f5, hq]
  unfold p9
  dsimp only
  rw [if_pos (show (!false) = true from rfl), j3 (by show _ ∧ _; omega)]; rfl
 ·rw [List.length_drop] at hj
  have hpj : p + j < src.length := by omega
  rw [List.getElem_drop] at hq
  show n5 (PRdI.mk src (p : Int) k0) go (PRdI.mk src ((p + j : Nat) : Int) k) = _
  unfold n5
  dsimp only
  rw [if_pos (by omega), l6 hpj, f5, fS, f5, hq]
  exact hJ go (p + j) (by omega) (by omega)
 ·show n5 (PRdI.mk src (p : Int) k0) go (PRdI.mk src ((p + (src.drop p).length : Nat) : Int) k) = _
  unfold n5
  dsimp only
  rw [List.length_drop, if_neg (by omega)]
  exact hJ go (p + (src.length - p)) (by omega) (by omega)
def endT (src : List UInt8) (p : Nat) : Nat := p + fnd (isB 34) (src.drop p)
theorem endT_le {src : List UInt8} {p : Nat} (h : p ≤ src.length) : p ≤ endT src p ∧ endT src p ≤ src.length := by
 have := nQ (isB 34) (src.drop p)
 rw [List.length_drop] at this
 unfold endT; omega
theorem s_text_eq (src : List UInt8) (hl : src.length ≤ 1000000) (p : Nat) (hp : p + 1 ≤ src.length) :
 itr (Y5 (PRdS.mk src (p : Int) false)) LF (PRdS.mk src ((p + 1 : Nat) : Int) false) = some (if endT src (p + 1) < src.length then (if isText (word src (p + 1) (endT src (p + 1))) = true then (PD.mk 4 0 (word src (p + 1) (endT src (p + 1))) [], PRdS.mk src ((endT src (p + 1) + 1 : Nat) : Int) false) else (zD, PRdS.mk src (endT src (p + 1) : Nat) true)) else (zD, PRdS.mk src (endT src (p + 1) : Nat) true)) := by
 have hJ : ∀ go (e : Nat), p + 1 ≤ e → e ≤ src.length → F6 (PRdS.mk src (p : Int) false) (PRdS.mk src (e : Int) false) go false = some (if e < src.length then (if isText (word src (p + 1) e) = true then (PD.mk 4 0 (word src (p + 1) e) [], PRdS.mk src ((e + 1 : Nat) : Int) false) else (zD, PRdS.mk src (e : Int) true)) else (zD, PRdS.mk src (e : Int) true)) := fun go e h1 h2 => by
  unfold F6
  dsimp only
  have hw := cE src (p + 1) e
  have hS : SM (word src (p + 1) e) := by unfold SM; omega
  have e1 : ((p : Int) + 1).toNat = p + 1 := by omega
  have e2 : ((e : Int) + 1 - 1).toNat = e := by omega
  rw [if_neg (by simp), e1, e2, Int.toNat_natCast]
  by_cases he : e < src.length
  ·rw [if_neg (by omega), if_pos he, j3 (by omega)]
   show bnd (G7 (word src (p + 1) e)) _ = _
   rw [Y6 _ hS, f5]
   by_cases ht : isText (word src (p + 1) e) = true
   ·rw [if_pos ht, if_pos ht, j3 (by show _ ∧ _; omega), j3 (by show _ ∧ _; omega), j3 (by omega)]
    unfold P5
    show bnd (bnd (G7 (word src (p + 1) e)) _) _ = _
    rw [Y6 _ hS, f5, if_pos ht, f5]; rfl
   ·rw [if_neg ht, if_neg ht]; rfl
  ·rw [if_pos (by omega), if_neg he]; rfl
 have key := scanLF (L := Y5 (PRdS.mk src (p : Int) false)) (fun j => PRdS.mk src ((p + 1 + j : Nat) : Int) false) (src.drop (p + 1)) (isB 34) (fun e => some (if p + 1 + e < src.length then (if isText (word src (p + 1) (p + 1 + e)) = true then (PD.mk 4 0 (word src (p + 1) (p + 1 + e)) [], PRdS.mk src ((p + 1 + e + 1 : Nat) : Int) false) else (zD, PRdS.mk src ((p + 1 + e : Nat) : Int) true)) else (zD, PRdS.mk src ((p + 1 + e : Nat) : Int) true))) (by rw [List.length_drop]; omega) (fun go j hj hq => ?_) (fun go j hj hq => ?_) (fun go => ?_) 0 (Nat.zero_le _)
 ·rw [Nat.zero_add, List.drop_zero] at key
  exact key
 ·rw [List.length_drop] at hj
  have hpj : p + 1 + j < src.length := by omega
  rw [List.getElem_drop] at hq
  show z8 (PRdS.mk src (p : Int) false) go (PRdS.mk src ((p + 1 + j : Nat) : Int) false) = _
  unfold z8
  dsimp only
  rw [if_pos (by omega), l6 hpj, f5, show decide (((src[p + 1 + j]).toNat : Int) = 34) = isB 34 src[p + 1 + j] from rfl, hq]
  unfold F6
  dsimp only
  rw [if_pos (show (!false) = true from rfl), j3 (by show _ ∧ _; omega)]; rfl
 ·rw [List.length_drop] at hj
  have hpj : p + 1 + j < src.length := by omega
  rw [List.getElem_drop] at hq
  show z8 (PRdS.mk src (p : Int) false) go (PRdS.mk src ((p + 1 + j : Nat) : Int) false) = _
  unfold z8
  dsimp only
  rw [if_pos (by omega), l6 hpj, f5, show decide (((src[p + 1 + j]).toNat : Int) = 34) = isB 34 src[p + 1 + j] from rfl, hq]
  exact hJ go (p + 1 + j) (by omega) (by omega)
 ·show z8 (PRdS.mk src (p : Int) false) go (PRdS.mk src ((p + 1 + (src.drop (p + 1)).length : Nat) : Int) false) = _
  unfold z8
  dsimp only
  rw [List.length_drop, if_neg (by omega)]
  exact hJ go (p + 1 + (src.length - (p + 1))) (by omega) (by omega)
theorem i_text_eq (src : List UInt8) (hl : src.length ≤ 1000000) (p : Nat) (hp : p + 1 ≤ src.length) (k : Int) :
 itr (B1 (PRdI.mk src (p : Int) k)) LF ((p : Int) + 1) = some (if endT src (p + 1) < src.length then (PD.mk 4 0 (word src (p + 1) (endT src (p + 1))) [], isText (word src (p + 1) (endT src (p + 1))), PRdI.mk src ((endT src (p + 1) + 1 : Nat) : Int) (k + 1)) else (zD, false, PRdI.mk src (p : Int) (k + 1))) := by
 have key := scanLF (L := B1 (PRdI.mk src (p : Int) k)) (fun j => ((p + 1 + j : Nat) : Int)) (src.drop (p + 1)) (isB 34) (fun e => some (if p + 1 + e < src.length then (PD.mk 4 0 (word src (p + 1) (p + 1 + e)) [], isText (word src (p + 1) (p + 1 + e)), PRdI.mk src ((p + 1 + e + 1 : Nat) : Int) (k + 1)) else (zD, false, PRdI.mk src (p : Int) (k + 1)))) (by rw [List.length_drop]; omega) (fun go j hj hq => ?_) (fun go j hj hq => ?_) (fun go => ?_) 0 (Nat.zero_le _)
 ·rw [Nat.zero_add, List.drop_zero] at key
  exact key
 ·rw [List.length_drop] at hj
  have hpj : p + 1 + j < src.length := by omega
  rw [List.getElem_drop] at hq
  show m9 (PRdI.mk src (p : Int) k) go ((p + 1 + j : Nat) : Int) = _
  unfold m9
  dsimp only
  rw [if_pos (by omega), l6 hpj, f5, if_neg (R0 hq), j3 (by show _ ∧ _; omega)]; rfl
 ·rw [List.length_drop] at hj
  have hpj : p + 1 + j < src.length := by omega
  rw [List.getElem_drop] at hq
  show m9 (PRdI.mk src (p : Int) k) go ((p + 1 + j : Nat) : Int) = _
  unfold m9
  dsimp only
  have e1 : ((p : Int) + 1).toNat = p + 1 := by omega
  have hw := cE src (p + 1) (p + 1 + j)
  have hS : SM (word src (p + 1) (p + 1 + j)) := by unfold SM; omega
  rw [if_pos (by omega), l6 hpj, f5, if_pos (U3 hq), j3 (by show _ ∧ _; omega), j3 (by omega), j3 (by omega), e1, Int.toNat_natCast]
  show bnd (E8 (word src (p + 1) (p + 1 + j))) _ = _
  rw [aV _ hS, f5, if_pos hpj]; rfl
 ·show m9 (PRdI.mk src (p : Int) k) go ((p + 1 + (src.drop (p + 1)).length : Nat) : Int) = _
  unfold m9
  dsimp only
  rw [List.length_drop, if_neg (by omega), if_neg (by omega)]; rfl
end Go.Abs

namespace Go.Abs
open PD
def fails (x : Option (PD × Bool × PRdI)) : Prop := ∃ d r, x = some (d, false, r)
def RdS (src : List UInt8) (p : Nat) (res : Option (PD × PRdS)) (imp : Nat → Option (PD × Bool × PRdI)) : Prop :=
 (∃ d pos, res = some (d, PRdS.mk src pos true) ∧ 0 ≤ pos ∧ pos + (p : Int) ≤ 2 * (src.length : Int) + 1 ∧ ∀ k, k ≤ 100000 → fails (imp k)) ∨
 (∃ d, ∃ q : Nat, res = some (d, PRdS.mk src (q : Int) false) ∧ p < q ∧ q ≤ src.length ∧ wD d + 1 ≤ 8 * (q - p) ∧
  ∀ k, k ≤ 100000 → if k + (d.cnt + 1) ≤ 600 then imp k = some (d, true, PRdI.mk src (q : Int) ((k + (d.cnt + 1) : Nat) : Int)) else fails (imp k))
theorem gV (d : PD) (r : List PD) : wDs (d :: r) = 1 + wD d + wDs r := by rw [wDs]
theorem itr_s {σ R : Type} (L : (σ → Option R) → σ → Option R) (k : Nat) (v : σ) : itr L (k + 1) v = L (itr L k) v := rfl
def roundI (src : List UInt8) (ri : PRdI → Option (PD × Bool × PRdI)) (go : PRdI × List PD → Option (PD × Bool × PRdI)) (p1 : Nat) (k : Int) (items : List PD) : Option (PD × Bool × PRdI) :=
 if (p1 : Int) ≥ (src.length : Int) then some (PD.mk 0 0 ([] : List UInt8) [], false, PRdI.mk src (p1 : Int) k) else bnd (nth src (p1 : Int)) fun x9 => if (x9.toNat : Int) = 41 then chk (I64 ((p1 : Int) + 1)) <| some (PD.mk 0 0 ([] : List UInt8) items, true, PRdI.mk src ((p1 : Int) + 1) k) else bnd (ri (PRdI.mk src (p1 : Int) k)) fun x10 => if x10.2.1 = true then chk ((items.length + ([x10.1] : List PD).length) * 56 ≤ 140737488355328) <| go (x10.2.2, items ++ [x10.1]) else some (PD.mk 0 0 ([] : List UInt8) [], false, x10.2.2)
theorem roundI_eq (src : List UInt8) (hl : src.length ≤ 15000) (ri : PRdI → Option (PD × Bool × PRdI)) (go : PRdI × List PD → Option (PD × Bool × PRdI)) (p : Nat) (hp : p ≤ src.length) (k : Int) (items : List PD) : y9 ri go (PRdI.mk src (p : Int) k) items = roundI src ri go (sk src p) k items := by
 unfold y9 roundI
 rw [aU src (by omega) p hp k, f5]
theorem roundS_eq (src : List UInt8) (rs : PRdS → Option (PD × PRdS)) (go : PRdS × List PD → Option (PD × PRdS)) (p1 : Nat) (items : List PD) : B9 rs go (PRdS.mk src (p1 : Int) false) items = if (p1 : Int) < (src.length : Int) then bnd (nth src (p1 : Int)) fun x10 => v7 rs (PRdS.mk src (p1 : Int) false) items go (!decide ((x10.toNat : Int) = 41)) else v7 rs (PRdS.mk src (p1 : Int) false) items go false := by
 unfold B9
 dsimp only
 rw [if_neg (by simp)]
theorem list_all (src : List UInt8) (hl : src.length ≤ 15000) (rs : PRdS → Option (PD × PRdS)) (ri : PRdI → Option (PD × Bool × PRdI)) (p0 : Nat)
 (ih : ∀ p, p0 ≤ p → p ≤ src.length → RdS src p (rs (PRdS.mk src (p : Int) false)) (fun k => ri (PRdI.mk src (p : Int) (k : Int)))) :
 ∀ (t M1 M2 p : Nat) (items : List PD), src.length - p < t → t + 1 ≤ M1 → t + 1 ≤ M2 → p0 ≤ p → p ≤ src.length → items.length ≤ p →
 (∃ d pos, itr (A6 rs) M1 (PRdS.mk src (sk src p : Nat) false, items) = some (d, PRdS.mk src pos true) ∧ 0 ≤ pos ∧ pos + (p : Int) ≤ 2 * (src.length : Int) + 2 ∧ ∀ k, k + cnts items ≤ 600 → fails (itr (k8 ri) M2 (PRdI.mk src (p : Int) ((k + cnts items : Nat) : Int), items))) ∨
 (∃ ds, ∃ q : Nat, itr (A6 rs) M1 (PRdS.mk src (sk src p : Nat) false, items) = some (PD.mk 0 0 [] (items ++ ds), PRdS.mk src (q : Int) false) ∧ p < q ∧ q ≤ src.length ∧ wDs ds + 1 ≤ 8 * (q - p) ∧
  ∀ k, k + cnts items ≤ 600 → if k + cnts (items ++ ds) ≤ 600 then itr (k8 ri) M2 (PRdI.mk src (p : Int) ((k + cnts items : Nat) : Int), items) = some (PD.mk 0 0 [] (items ++ ds), true, PRdI.mk src (q : Int) ((k + cnts (items ++ ds) : Nat) : Int)) else fails (itr (k8 ri) M2 (PRdI.mk src (p : Int) ((k + cnts items : Nat) : Int), items))) := by
 intro t
 induction t with
 | zero => intro _ _ p _ h; omega
 | succ t iht =>
  intro M1 M2 p items ht hM1 hM2 hp0 hp hit
  obtain ⟨M1, rfl⟩ : ∃ m, M1 = m + 1 := ⟨M1 - 1, by omega⟩
  obtain ⟨M2, rfl⟩ : ∃ m, M2 = m + 1 := ⟨M2 - 1, by omega⟩
  have hk := sk_le hp
  have hI : ∀ k : Int, itr (k8 ri) (M2 + 1) (PRdI.mk src (p : Int) k, items) = roundI src ri (itr (k8 ri) M2) (sk src p) k items := fun k => roundI_eq src hl ri _ p hp k items
  have hS0 : A6 rs (itr (A6 rs) M1) (PRdS.mk src (sk src p : Nat) false, items) = B9 rs (itr (A6 rs) M1) (PRdS.mk src (sk src p : Nat) false) items := rfl
  have hS := (itr_s (A6 rs) M1 (PRdS.mk src (sk src p : Nat) false, items)).trans (hS0.trans (roundS_eq src rs (itr (A6 rs) M1) (sk src p) items))
  rw [hS]
  generalize sk src p = p1 at hk hI
  by_cases h1 : p1 < src.length
  ·rw [if_pos (by omega), l6 h1, f5]
   by_cases h41 : ((src[p1]).toNat : Int) = 41
   ·rw [decide_eq_true h41]
    unfold v7
    dsimp only
    rw [Bool.not_true, if_neg (by simp), if_neg (by simp), j3 (by show _ ∧ _; omega), decide_eq_false (show ¬ (p1 : Int) ≥ (src.length : Int) by omega)]
    refine .inr ⟨[], p1 + 1, by rw [List.append_nil]; rfl, by omega, by omega, by show 0 + 1 ≤ _; omega, fun k hk2 => ?_⟩
    rw [List.append_nil, if_pos hk2, hI]
    unfold roundI
    rw [if_neg (by omega), l6 h1, f5, if_pos h41, j3 (by show _ ∧ _; omega)]; rfl
   ·rw [decide_eq_false h41]
    unfold v7
    rw [Bool.not_false, if_pos rfl]
    have hI2 : ∀ k : Int, itr (k8 ri) (M2 + 1) (PRdI.mk src (p : Int) k, items) = bnd (ri (PRdI.mk src (p1 : Int) k)) fun x10 => if x10.2.1 = true then chk ((items.length + ([x10.1] : List PD).length) * 56 ≤ 140737488355328) <| itr (k8 ri) M2 (x10.2.2, items ++ [x10.1]) else some (PD.mk 0 0 ([] : List UInt8) [], false, x10.2.2) := fun k => by
     rw [hI]
     unfold roundI
     rw [if_neg (by omega), l6 h1, f5, if_neg h41]
    rcases ih p1 (by omega) (by omega) with ⟨d, pos, e1, e2, e3, e4⟩ | ⟨d, q, e1, e2, e3, e4, e5⟩
    ·obtain ⟨pos', f1, f2, f3⟩ := kT src (by omega) pos e2 true
     rw [e1, f5, j3 (by simp only [List.length_cons, List.length_nil]; omega), f1, f5]
     cases M1 with
     | zero => omega
     | succ M1 =>
      refine .inl ⟨PD.mk 0 0 [] (items ++ [d]), pos' + 1, ?_, by omega, by omega, fun k hk2 => ?_⟩
      ·rw [itr_s]
       show B9 rs (itr (A6 rs) M1) (PRdS.mk src pos' true) (items ++ [d]) = _
       unfold B9
       dsimp only
       rw [if_pos rfl]
       unfold v7
       dsimp only
       rw [if_neg (by simp), if_pos rfl, j3 (by show _ ∧ _; omega)]
      ·obtain ⟨d2, r2, g⟩ := e4 (k + cnts items) (by omega)
       have g' : ri (PRdI.mk src (p1 : Int) ((k + cnts items : Nat) : Int)) = some (d2, false, r2) := g
       rw [hI2, g', f5, if_neg (by simp)]
       exact ⟨_, _, rfl⟩
    ·have hc : ∀ k, k + cnts items + (d.cnt + 1) = k + cnts (items ++ [d]) := fun k => by rw [W6, bR]; omega
     rw [e1, f5, j3 (by simp only [List.length_cons, List.length_nil]; omega), W1 src (by omega) q e3 false, f5]
     have hrec := iht M1 M2 q (items ++ [d]) (by omega) (by omega) (by omega) (by omega) e3 (by simp only [List.length_append, List.length_cons, List.length_nil]; omega)
     have hfail : ∀ k, k + cnts items ≤ 600 → ¬ k + cnts (items ++ [d]) ≤ 600 → fails (itr (k8 ri) (M2 + 1) (PRdI.mk src (p : Int) ((k + cnts items : Nat) : Int), items)) := fun k h2 h3 => by
      have g := e5 (k + cnts items) (by omega)
      rw [if_neg (by rw [hc]; exact h3)] at g
      obtain ⟨d2, r2, g⟩ := g
      have g' : ri (PRdI.mk src (p1 : Int) ((k + cnts items : Nat) : Int)) = some (d2, false, r2) := g
      rw [hI2, g', f5, if_neg (by simp)]
      exact ⟨_, _, rfl⟩
     have hgo : ∀ k, k + cnts items ≤ 600 → k + cnts (items ++ [d]) ≤ 600 → itr (k8 ri) (M2 + 1) (PRdI.mk src (p : Int) ((k + cnts items : Nat) : Int), items) = itr (k8 ri) M2 (PRdI.mk src (q : Int) ((k + cnts (items ++ [d]) : Nat) : Int), items ++ [d]) := fun k h2 h3 => by
      have g := e5 (k + cnts items) (by omega)
      rw [if_pos (by rw [hc]; exact h3), hc] at g
      have g' : ri (PRdI.mk src (p1 : Int) ((k + cnts items : Nat) : Int)) = some (d, true, PRdI.mk src (q : Int) ((k + cnts (items ++ [d]) : Nat) : Int)) := g
      rw [hI2, g', f5, if_pos rfl, j3 (by simp only [List.length_cons, List.length_nil]; omega)]
     rcases hrec with ⟨d3, pos, g1, g2, g3, g4⟩ | ⟨ds, q2, g1, g2, g3, g4, g5⟩
     ·refine .inl ⟨d3, pos, g1, g2, by omega, fun k hk2 => ?_⟩
      by_cases h3 : k + cnts (items ++ [d]) ≤ 600
      ·rw [hgo k hk2 h3]; exact g4 k h3
      ·exact hfail k hk2 h3
     ·have ha : items ++ [d] ++ ds = items ++ (d :: ds) := by rw [List.append_assoc]; rfl
      rw [ha] at g1 g5
      refine .inr ⟨d :: ds, q2, g1, by omega, g3, by rw [gV]; omega, fun k hk2 => ?_⟩
      have hle : cnts (items ++ [d]) ≤ cnts (items ++ (d :: ds)) := by rw [← ha, W6 (items ++ [d])]; omega
      by_cases h3 : k + cnts (items ++ [d]) ≤ 600
      ·rw [hgo k hk2 h3]; exact g5 k h3
      ·rw [if_neg (by omega)]; exact hfail k hk2 h3
  ·rw [if_neg (by omega)]
   unfold v7
   dsimp only
   rw [if_neg (by simp), if_neg (by simp), j3 (by show _ ∧ _; omega), decide_eq_true (show (p1 : Int) ≥ (src.length : Int) by omega)]
   refine .inl ⟨_, _, rfl, by omega, by omega, fun k hk2 => ?_⟩
   rw [hI]
   unfold roundI
   rw [if_pos (by omega)]
   exact ⟨_, _, rfl⟩
theorem quote_ok : D1 ([113, 117, 111, 116, 101] : List UInt8) = some (PD.mk 1 0 [113, 117, 111, 116, 101] []) := by
 unfold D1
 rw [P3 _ (by unfold SM; decide), f5, if_pos (by decide)]
theorem rd_all (src : List UInt8) (hl : src.length ≤ 15000) : ∀ (L n1 n2 p : Nat), src.length - p < L → L ≤ n1 → L ≤ n2 → p ≤ src.length →
 RdS src p (n7 n1 (PRdS.mk src (p : Int) false)) (fun k => f9 n2 (PRdI.mk src (p : Int) (k : Int)))
 | 0, _, _, _, h, _, _, _ => by omega
 | L + 1, 0, _, _, _, h, _, _ => by omega
 | L + 1, _ + 1, 0, _, _, _, h, _ => by omega
 | L + 1, n1 + 1, n2 + 1, p, hL, hn1, hn2, hp => by
  have hk := sk_le hp
  show RdS src p (W0 (n7 n1) (PRdS.mk src (p : Int) false)) (fun k => g7 (f9 n2) (PRdI.mk src (p : Int) (k : Int)))
  unfold W0
  rw [W1 src (by omega) p hp false, f5]
  dsimp only
  rw [if_neg (by simp)]
  generalize hsk : sk src p = p1 at hk
  have hI : ∀ k : Nat, k ≤ 100000 → g7 (f9 n2) (PRdI.mk src (p : Int) (k : Int)) = g7 (f9 n2) (PRdI.mk src (p : Int) (k : Int)) := fun _ _ => rfl
  by_cases h1 : p1 < src.length
  ·rw [if_neg (by omega), l6 h1, f5, f5]
   have hbig : ∀ k : Nat, k ≤ 100000 → ¬ k + 1 ≤ 600 → fails (g7 (f9 n2) (PRdI.mk src (p : Int) (k : Int))) := fun k h2 h3 => by
    unfold g7
    rw [aU src (by omega) p hp, f5, hsk]
    dsimp only
    rw [j3 (by show _ ∧ _; omega), if_neg (by omega), if_pos (by omega)]
    exact ⟨_, _, rfl⟩
   have hgo : ∀ k : Nat, k + 1 ≤ 600 → g7 (f9 n2) (PRdI.mk src (p : Int) (k : Int)) = if ((src[p1]).toNat : Int) = 40 then
    chk (I64 ((p1 : Int) + 1)) <| itr (k8 (f9 n2)) LF (PRdI.mk src ((p1 : Int) + 1) ((k : Int) + 1), [])
    else if ((src[p1]).toNat : Int) = 41 then some (zD, false, PRdI.mk src (p1 : Int) ((k : Int) + 1))
    else if ((src[p1]).toNat : Int) = 39 then
     chk (I64 ((p1 : Int) + 1)) <| chk (I64 ((k : Int) + 1 + 1)) <| bnd (f9 n2 (PRdI.mk src ((p1 : Int) + 1) ((k : Int) + 1 + 1))) fun x5 =>
     if x5.2.1 = true then some (PD.mk 0 0 [] [PD.mk 1 0 [113, 117, 111, 116, 101] [], x5.1], true, x5.2.2) else some (zD, false, x5.2.2)
    else if ((src[p1]).toNat : Int) = 34 then
     chk (I64 ((p1 : Int) + 1)) <| itr (B1 (PRdI.mk src (p1 : Int) (k : Int))) LF ((p1 : Int) + 1)
    else itr (B2 (PRdI.mk src (p1 : Int) (k : Int))) LF (PRdI.mk src (p1 : Int) ((k : Int) + 1)) := fun k h3 => by
    unfold g7
    rw [aU src (by omega) p hp, f5, hsk]
    dsimp only
    rw [j3 (by show _ ∧ _; omega), if_neg (by omega), if_neg (by omega), l6 h1, f5]; rfl
   have hP : ((p1 : Int) + 1) = ((p1 + 1 : Nat) : Int) := by omega
   by_cases h41 : ((src[p1]).toNat : Int) = 41
   ·rw [if_pos h41]
    refine .inl ⟨_, _, rfl, by omega, by omega, fun k hk2 => ?_⟩
    by_cases h3 : k + 1 ≤ 600
    ·show fails (g7 _ _)
     rw [hgo k h3, if_neg (by omega), if_pos h41]
     exact ⟨_, _, rfl⟩
    ·exact hbig k hk2 h3
   rw [if_neg h41]
   by_cases h39 : ((src[p1]).toNat : Int) = 39
   ·rw [if_pos h39, j3 (by show _ ∧ _; omega), quote_ok, f5, hP]
    rcases rd_all src hl L n1 n2 (p1 + 1) (by omega) (by omega) (by omega) (by omega) with ⟨d, pos, e1, e2, e3, e4⟩ | ⟨d, q, e1, e2, e3, e4, e5⟩
    ·rw [e1, f5]
     refine .inl ⟨_, _, rfl, e2, by omega, fun k hk2 => ?_⟩
     by_cases h3 : k + 1 ≤ 600
     ·obtain ⟨d2, r2, g⟩ := e4 (k + 2) (by omega)
      have g' : f9 n2 (PRdI.mk src ((p1 + 1 : Nat) : Int) ((k : Int) + 1 + 1)) = some (d2, false, r2) := by
       have e : ((k : Int) + 1 + 1) = ((k + 2 : Nat) : Int) := by omega
       rw [e]; exact g
      show fails (g7 _ _)
      rw [hgo k h3, if_neg (by omega), if_neg h41, if_pos h39, j3 (by show _ ∧ _; omega), j3 (by show _ ∧ _; omega), hP, g', f5, if_neg (by simp)]
      exact ⟨_, _, rfl⟩
     ·exact hbig k hk2 h3
    ·rw [e1, f5]
     have hcn : (PD.mk 0 0 [] [PD.mk 1 0 [113, 117, 111, 116, 101] [], d]).cnt = d.cnt + 2 := by
      rw [cnt_eq]
      show cnts [_, d] = _
      rw [dC, bR]
      show 1 + 0 + (d.cnt + 1) = _
      omega
     have hww : wD (PD.mk 0 0 [] [PD.mk 1 0 [113, 117, 111, 116, 101] [], d]) = 7 + wD d := by
      rw [fN]
      show 0 + wDs [_, d] = _
      rw [gV, gV]
      show 0 + (1 + 5 + (1 + wD d + 0)) = _
      omega
     refine .inr ⟨_, q, rfl, by omega, e3, by rw [hww]; omega, fun k hk2 => ?_⟩
     rw [hcn]
     by_cases h3 : k + 1 ≤ 600
     ·have g := e5 (k + 2) (by omega)
      have e : ((k : Int) + 1 + 1) = ((k + 2 : Nat) : Int) := by omega
      have hrun : g7 (f9 n2) (PRdI.mk src (p : Int) (k : Int)) = bnd (f9 n2 (PRdI.mk src ((p1 + 1 : Nat) : Int) ((k + 2 : Nat) : Int))) fun x5 => if x5.2.1 = true then some (PD.mk 0 0 [] [PD.mk 1 0 [113, 117, 111, 116, 101] [], x5.1], true, x5.2.2) else some (zD, false, x5.2.2) := by
       rw [hgo k h3, if_neg (show ¬ ((src[p1]).toNat : Int) = 40 by omega), if_neg h41, if_pos h39, j3 (by show _ ∧ _; omega), j3 (by show _ ∧ _; omega), hP, e]
      show if _ then g7 _ _ = _ else fails (g7 _ _)
      rw [hrun]
      by_cases h6 : k + 2 + (d.cnt + 1) ≤ 600
      ·rw [if_pos h6] at g
       have g' : f9 n2 (PRdI.mk src ((p1 + 1 : Nat) : Int) ((k + 2 : Nat) : Int)) = some (d, true, PRdI.mk src (q : Int) ((k + 2 + (d.cnt + 1) : Nat) : Int)) := g
       rw [if_pos (show k + (d.cnt + 2 + 1) ≤ 600 by omega), g', f5, if_pos rfl, show k + 2 + (d.cnt + 1) = k + (d.cnt + 2 + 1) by omega]
      ·rw [if_neg h6] at g
       obtain ⟨d2, r2, g⟩ := g
       have g' : f9 n2 (PRdI.mk src ((p1 + 1 : Nat) : Int) ((k + 2 : Nat) : Int)) = some (d2, false, r2) := g
       rw [if_neg (show ¬ k + (d.cnt + 2 + 1) ≤ 600 by omega), g', f5, if_neg (by simp)]
       exact ⟨_, _, rfl⟩
     ·rw [if_neg (by omega)]; exact hbig k hk2 h3
   rw [if_neg h39]
   by_cases h34 : ((src[p1]).toNat : Int) = 34
   ·have hte := endT_le (src := src) (p := p1 + 1) (by omega)
    have hwl := cE src (p1 + 1) (endT src (p1 + 1))
    rw [if_pos h34, j3 (by show _ ∧ _; omega), hP, s_text_eq src (by omega) p1 (by omega)]
    have hgo2 : ∀ k : Nat, k + 1 ≤ 600 → g7 (f9 n2) (PRdI.mk src (p : Int) (k : Int)) = some (if endT src (p1 + 1) < src.length then (PD.mk 4 0 (word src (p1 + 1) (endT src (p1 + 1))) [], isText (word src (p1 + 1) (endT src (p1 + 1))), PRdI.mk src ((endT src (p1 + 1) + 1 : Nat) : Int) ((k : Int) + 1)) else (zD, false, PRdI.mk src (p1 : Int) ((k : Int) + 1))) := fun k h3 => by
     rw [hgo k h3, if_neg (by omega), if_neg h41, if_neg h39, if_pos h34, j3 (by show _ ∧ _; omega), i_text_eq src (by omega) p1 (by omega)]
    by_cases he : endT src (p1 + 1) < src.length
    ·rw [if_pos he]
     by_cases htx : isText (word src (p1 + 1) (endT src (p1 + 1))) = true
     ·rw [if_pos htx]
      refine .inr ⟨_, endT src (p1 + 1) + 1, rfl, by omega, by omega, ?_, fun k hk2 => ?_⟩
      ·rw [fN]
       show (word src (p1 + 1) (endT src (p1 + 1))).length + 0 + 1 ≤ _
       omega
      ·show if k + (0 + 1) ≤ 600 then g7 _ _ = _ else fails (g7 _ _)
       by_cases h3 : k + 1 ≤ 600
       ·rw [if_pos (by omega), hgo2 k h3, if_pos he, htx]; rfl
       ·rw [if_neg (by omega)]; exact hbig k hk2 h3
     ·rw [if_neg htx]
      refine .inl ⟨_, _, rfl, by omega, by omega, fun k hk2 => ?_⟩
      by_cases h3 : k + 1 ≤ 600
      ·show fails (g7 _ _)
       have : isText (word src (p1 + 1) (endT src (p1 + 1))) = false := by simpa using htx
       rw [hgo2 k h3, if_pos he, this]
       exact ⟨_, _, rfl⟩
      ·exact hbig k hk2 h3
    ·rw [if_neg he]
     refine .inl ⟨_, _, rfl, by omega, by omega, fun k hk2 => ?_⟩
     by_cases h3 : k + 1 ≤ 600
     ·show fails (g7 _ _)
      rw [hgo2 k h3, if_neg he]
      exact ⟨_, _, rfl⟩
     ·exact hbig k hk2 h3
   rw [if_neg h34]
   by_cases h40 : ((src[p1]).toNat : Int) = 40
   ·rw [if_pos h40, j3 (by show _ ∧ _; omega), hP, W1 src (by omega) (p1 + 1) (by omega) false, f5]
    have hlist := list_all src hl (n7 n1) (f9 n2) (p1 + 1) (fun p' h2 h3 => rd_all src hl L n1 n2 p' (by omega) (by omega) (by omega) h3) (src.length + 1) LF LF (p1 + 1) [] (by omega) (by rw [LF_eq]; omega) (by rw [LF_eq]; omega) (Nat.le_refl _) (by omega) (by simp)
    have hgo2 : ∀ k : Nat, k + 1 ≤ 600 → g7 (f9 n2) (PRdI.mk src (p : Int) (k : Int)) = itr (k8 (f9 n2)) LF (PRdI.mk src ((p1 + 1 : Nat) : Int) (((k + 1) + cnts ([] : List PD) : Nat) : Int), []) := fun k h3 => by
     rw [hgo k h3, if_pos h40, j3 (by show _ ∧ _; omega), hP]; rfl
    rcases hlist with ⟨d, pos, e1, e2, e3, e4⟩ | ⟨ds, q, e1, e2, e3, e4, e5⟩
    ·rw [e1]
     refine .inl ⟨_, _, rfl, e2, by omega, fun k hk2 => ?_⟩
     by_cases h3 : k + 1 ≤ 600
     ·show fails (g7 _ _)
      rw [hgo2 k h3]
      exact e4 (k + 1) (by show k + 1 + 0 ≤ _; omega)
     ·exact hbig k hk2 h3
    ·rw [e1, List.nil_append]
     refine .inr ⟨_, q, rfl, by omega, e3, by rw [fN]; show 0 + wDs ds + 1 ≤ _; omega, fun k hk2 => ?_⟩
     have hcn : (PD.mk 0 0 [] ds).cnt = cnts ds := cnt_eq _
     rw [hcn]
     show if _ then g7 _ _ = _ else fails (g7 _ _)
     by_cases h3 : k + 1 ≤ 600
     ·have g := e5 (k + 1) (by show k + 1 + 0 ≤ _; omega)
      rw [List.nil_append] at g
      rw [hgo2 k h3]
      by_cases h6 : k + 1 + cnts ds ≤ 600
      ·rw [if_pos h6] at g
       rw [if_pos (by omega), g, show k + 1 + cnts ds = k + (cnts ds + 1) by omega]
      ·rw [if_neg h6] at g
       rw [if_neg (by omega)]; exact g
     ·rw [if_neg (by omega)]; exact hbig k hk2 h3
   rw [if_neg h40, s_l1Atom_eq src (by omega) p1 (by omega), f5]
   have hew := endW_le (src := src) (p := p1) (by omega)
   have hwl := cE src p1 (endW src p1)
   have hgo2 : ∀ k : Nat, k + 1 ≤ 600 → g7 (f9 n2) (PRdI.mk src (p : Int) (k : Int)) = some ((atI (atomD (word src p1 (endW src p1)))).1, (atI (atomD (word src p1 (endW src p1)))).2, PRdI.mk src (endW src p1 : Nat) ((k : Int) + 1)) := fun k h3 => by
    rw [hgo k h3, if_neg h40, if_neg h41, if_neg h39, if_neg h34, i_atom_eq src (by omega) p1 (by omega)]
   cases hat : atomD (word src p1 (endW src p1)) with
   | none =>
    refine .inl ⟨_, _, rfl, by omega, by omega, fun k hk2 => ?_⟩
    by_cases h3 : k + 1 ≤ 600
    ·show fails (g7 _ _)
     rw [hgo2 k h3, hat]
     exact ⟨_, _, rfl⟩
    ·exact hbig k hk2 h3
   | some d =>
    have hd := atomD_w hat
    have hne : p1 < endW src p1 := by
     rcases Nat.lt_or_ge p1 (endW src p1) with h | h
     ·exact h
     ·have h0 : word src p1 (endW src p1) = [] := List.length_eq_zero_iff.1 (by omega)
      rw [h0, atomD_nil] at hat; cases hat
    refine .inr ⟨_, endW src p1, rfl, by omega, hew.2, by show wD d + 1 ≤ _; omega, fun k hk2 => ?_⟩
    show if k + (d.cnt + 1) ≤ 600 then g7 _ _ = some (d, _) else fails (g7 _ _)
    rw [hd.2]
    by_cases h3 : k + 1 ≤ 600
    ·rw [if_pos (by omega), hgo2 k h3, hat]; rfl
    ·rw [if_neg (by omega)]; exact hbig k hk2 h3
  ·rw [if_pos (by omega)]
   refine .inl ⟨_, _, rfl, by omega, by omega, fun k hk2 => ?_⟩
   show fails (g7 _ _)
   unfold g7
   rw [aU src (by omega) p hp, f5, hsk]
   dsimp only
   rw [j3 (by show _ ∧ _; omega), if_pos (by omega)]
   exact ⟨_, _, rfl⟩
end Go.Abs

namespace Go.Abs
open PD
def mAll {α : Type} (M : Int → α → Int × α) : Int → List α → Int × List α
 | k, [] => (k, [])
 | k, x :: r => ((mAll M (M k x).1 r).1, (M k x).2 :: (mAll M (M k x).1 r).2)
theorem X3 {α : Type} (M : Int → α → Int × α) : ∀ (xs : List α) (k : Int), (mAll M k xs).2.length = xs.length
 | [], _ => rfl
 | x :: r, k => by simp [mAll, X3 M r]
theorem wts_nil {α : Type} (wt : α → Nat) : wts wt ([] : List α) = 0 := rfl
theorem mAll_le {α : Type} {M : Int → α → Int × α} {wt : α → Nat} (hM : ∀ k x, k ≤ (M k x).1 ∧ (M k x).1 ≤ k + 6 * ((1 + wt x : Nat) : Int)) : ∀ (xs : List α) (k : Int), k ≤ (mAll M k xs).1 ∧ (mAll M k xs).1 ≤ k + 6 * ((wts wt xs : Nat) : Int)
 | [], k => by rw [wts_nil]; exact ⟨Int.le_refl _, by show k ≤ _; omega⟩
 | x :: r, k => by
  have h1 := hM k x
  have h2 := mAll_le hM r (M k x).1
  rw [eS]
  unfold mAll
  dsimp only
  omega
theorem set_take {α : Type} {a : List α} {i : Nat} {y : α} (h : i < a.length) : (a.set i y).take (i + 1) = a.take i ++ [y] ∧ (a.set i y).drop (i + 1) = a.drop (i + 1) := by
 rw [List.set_eq_take_append_cons_drop, if_pos h]
 have e : (a.take i).length = i := by rw [List.length_take]; omega
 constructor
 ·rw [List.take_append, e, List.take_of_length_le (by omega)]
  simp
 ·rw [List.drop_append, e, List.drop_of_length_le (by omega)]
  simp
theorem mark_loopG {α : Type} {M : Int → α → Int × α} (wt : α → Nat) (S : α → Prop) (B : Int) {L : (Int × Int × List α → Option (Int × List α)) → Int × Int × List α → Option (Int × List α)}
 (hM : ∀ k x, k ≤ (M k x).1 ∧ (M k x).1 ≤ k + 6 * ((1 + wt x : Nat) : Int))
 (step : ∀ go (i : Nat) k (a : List α) (hi : i < a.length), a.length ≤ 4000000 → S a[i] → 0 ≤ k → k + 6 * ((1 + wt a[i] : Nat) : Int) ≤ B → L go (k, (i : Int), a) = go ((M k a[i]).1, (i : Int) + 1, a.set i (M k a[i]).2))
 (fin : ∀ go k (a : List α), L go (k, (a.length : Int), a) = some (k, a))
 (xs : List α) (hS : ∀ x ∈ xs, S x) (hn : xs.length ≤ 4000000) (k : Int) (h0 : 0 ≤ k) (hB : k + 6 * ((wts wt xs : Nat) : Int) ≤ B) : itr L LF (k, 0, xs) = some (mAll M k xs) := by
 refine (fV (L := L) (fun v => some ((mAll M v.1 (v.2.2.drop v.2.1.toNat)).1, v.2.2.take v.2.1.toNat ++ (mAll M v.1 (v.2.2.drop v.2.1.toNat)).2)) (fun v => (0 ≤ v.2.1 ∧ v.2.1 ≤ v.2.2.length) ∧ v.2.2.length ≤ 4000000 ∧ (∀ x ∈ v.2.2.drop v.2.1.toNat, S x) ∧ 0 ≤ v.1 ∧ v.1 + 6 * ((wts wt (v.2.2.drop v.2.1.toNat) : Nat) : Int) ≤ B) (fun v => v.2.2.length - v.2.1.toNat) (fun go v hv hgo => ?_) (k, 0, xs) ⟨⟨Int.le_refl _, by show (0 : Int) ≤ (xs.length : Int); omega⟩, hn, by simpa using hS, h0, by simpa using hB⟩ (by show xs.length - 0 < _; omega)).trans (by simp)
 obtain ⟨k, j, a⟩ := v
 obtain ⟨⟨h1, h2⟩, h3, h4, h5, h6⟩ := hv
 simp only at h1 h2 h3 h4 h5 h6
 obtain ⟨i, rfl⟩ := Int.eq_ofNat_of_zero_le h1
 simp only [Int.ofNat_eq_natCast, Int.toNat_natCast] at *
 by_cases hi : i < a.length
 ·rw [List.drop_eq_getElem_cons hi] at h4 h6 ⊢
  rw [eS] at h6
  have hm := hM k a[i]
  have hst := set_take (y := (M k a[i]).2) hi
  rw [step go i k a hi h3 (h4 _ List.mem_cons_self) h5 (by omega)]
  refine (hgo ((M k a[i]).1, (i : Int) + 1, a.set i (M k a[i]).2) ⟨⟨by show (0 : Int) ≤ (i : Int) + 1; omega, by show (i : Int) + 1 ≤ ((a.set i _).length : Int); rw [List.length_set]; omega⟩, by show (a.set i _).length ≤ _; rw [List.length_set]; omega, ?_, by show 0 ≤ (M k a[i]).1; omega, ?_⟩ (by show (a.set i _).length - ((i : Int) + 1).toNat < _; rw [List.length_set]; omega)).trans ?_
  ·show ∀ x ∈ (a.set i _).drop ((i : Int) + 1).toNat, S x
   rw [show ((i : Int) + 1).toNat = i + 1 by omega, hst.2]
   exact fun x hx => h4 x (List.mem_cons_of_mem _ hx)
  ·show (M k a[i]).1 + 6 * ((wts wt ((a.set i _).drop ((i : Int) + 1).toNat) : Nat) : Int) ≤ B
   rw [show ((i : Int) + 1).toNat = i + 1 by omega, hst.2]
   omega
  ·show some ((mAll M (M k a[i]).1 ((a.set i _).drop ((i : Int) + 1).toNat)).1, (a.set i _).take ((i : Int) + 1).toNat ++ (mAll M (M k a[i]).1 ((a.set i _).drop ((i : Int) + 1).toNat)).2) = _
   rw [show ((i : Int) + 1).toNat = i + 1 by omega, hst.2, hst.1, List.append_assoc]
   rfl
 ·have : i = a.length := by omega
  subst this
  rw [fin, List.drop_length, List.take_length]
  simp [mAll]
theorem held_loopG {α : Type} {M : Int → α → Int × α} (wt : α → Nat) (S : α → Prop) (B : Int) (a : List α) {L : (Int × Int → Option Int) → Int × Int → Option Int}
 (hM : ∀ k x, k ≤ (M k x).1 ∧ (M k x).1 ≤ k + 6 * ((1 + wt x : Nat) : Int))
 (step : ∀ go (i : Nat) k (hi : i < a.length) x, a[i] = (M k x).2 → S x → 0 ≤ k → k + 6 * ((1 + wt x : Nat) : Int) ≤ B → L go (k, (i : Int)) = go ((M k x).1, (i : Int) + 1))
 (fin : ∀ go k, L go (k, (a.length : Int)) = some k)
 (xs : List α) (hS : ∀ x ∈ xs, S x) (hn : xs.length ≤ 4000000) (k : Int) (h0 : 0 ≤ k) (hB : k + 6 * ((wts wt xs : Nat) : Int) ≤ B) (ha : a = (mAll M k xs).2) : itr L LF (k, 0) = some (mAll M k xs).1 := by
 have hal : a.length = xs.length := by rw [ha, X3]
 refine fV (L := L) (fun _ => some (mAll M k xs).1) (fun v => (0 ≤ v.2 ∧ v.2 ≤ a.length) ∧ ∃ ys, a.drop v.2.toNat = (mAll M v.1 ys).2 ∧ (mAll M v.1 ys).1 = (mAll M k xs).1 ∧ (∀ x ∈ ys, S x) ∧ 0 ≤ v.1 ∧ v.1 + 6 * ((wts wt ys : Nat) : Int) ≤ B) (fun v => a.length - v.2.toNat) (fun go v hv hgo => ?_) (k, 0) ⟨⟨Int.le_refl _, by show (0 : Int) ≤ (a.length : Int); omega⟩, xs, by simpa using ha, rfl, hS, h0, hB⟩ (by show a.length - 0 < _; omega)
 obtain ⟨k1, j⟩ := v
 obtain ⟨⟨h1, h2⟩, ys, g1, g2, g3, g4, g5⟩ := hv
 simp only at h1 h2 g1 g2 g3 g4 g5
 obtain ⟨i, rfl⟩ := Int.eq_ofNat_of_zero_le h1
 simp only [Int.ofNat_eq_natCast, Int.toNat_natCast] at *
 by_cases hi : i < a.length
 ·rw [List.drop_eq_getElem_cons hi] at g1
  cases ys with
  | nil => simp [mAll] at g1; omega
  | cons y r =>
   have g2 : (mAll M (M k1 y).1 r).1 = (mAll M k xs).1 := g2
   have g1 : a[i] :: a.drop (i + 1) = (M k1 y).2 :: (mAll M (M k1 y).1 r).2 := g1
   simp only [List.cons.injEq] at g1
   rw [eS] at g5
   have hm := hM k1 y
   rw [step go i k1 hi y g1.1 (g3 y (by simp)) g4 (by omega)]
   exact hgo ((M k1 y).1, (i : Int) + 1) ⟨⟨by show (0 : Int) ≤ (i : Int) + 1; omega, by show (i : Int) + 1 ≤ _; omega⟩, r, by show a.drop ((i : Int) + 1).toNat = _; rw [show ((i : Int) + 1).toNat = i + 1 by omega]; exact g1.2, g2, fun x hx => g3 x (by simp [hx]), by show 0 ≤ (M k1 y).1; omega, by show (M k1 y).1 + _ ≤ _; omega⟩ (by show a.length - ((i : Int) + 1).toNat < a.length - i; omega)
 ·have : i = a.length := by omega
  subst this
  rw [fin]
  rw [List.drop_length] at g1
  cases ys with
  | nil => rw [← g2]; rfl
  | cons y r => simp [mAll] at g1
theorem wts_0 {α : Type} (xs : List α) : wts (fun _ => 0) xs = xs.length := by
 induction xs with
 | nil => rfl
 | cons x r ih => rw [eS, ih]; simp; omega
def mtx (k : Int) : List UInt8 := (J5 k).getD []
theorem iP {k : Int} (h : k ≤ 4611686018427387904) : J5 k = some (mtx k) := by
 obtain ⟨t, ht⟩ := dT k h
 unfold mtx; rw [ht]; rfl
mutual
def mD : Int → PD → Int × PD
 | k, .mk _ _ _ is => ((mDs (k + 1 + 1 + 1) is).1, .mk k (k + 1) (mtx (k + 1 + 1)) (mDs (k + 1 + 1 + 1) is).2)
def mDs : Int → List PD → Int × List PD
 | k, [] => (k, [])
 | k, d :: r => ((mDs (mD k d).1 r).1, (mD k d).2 :: (mDs (mD k d).1 r).2)
end
theorem mDs_eq : ∀ (ds : List PD) (k : Int), mDs k ds = mAll mD k ds
 | [], _ => by unfold mDs mAll; rfl
 | d :: r, k => by unfold mDs mAll; rw [mDs_eq r]
theorem mD_eq (k : Int) (d : PD) : mD k d = ((mAll mD (k + 1 + 1 + 1) d.items).1, .mk k (k + 1) (mtx (k + 1 + 1)) (mAll mD (k + 1 + 1 + 1) d.items).2) := by
 cases d; unfold mD; rw [mDs_eq]; rfl
theorem mD_le : (∀ d : PD, ∀ k, k ≤ (mD k d).1 ∧ (mD k d).1 ≤ k + 6 * ((1 + wD d : Nat) : Int)) ∧ ∀ ds : List PD, ∀ k, k ≤ (mAll mD k ds).1 ∧ (mAll mD k ds).1 ≤ k + 6 * ((wDs ds : Nat) : Int) := by
 refine PD.ind (fun ds h k => ?_) (fun d h k => ?_)
 ·induction ds generalizing k with
  | nil => exact ⟨Int.le_refl _, by show k ≤ _; omega⟩
  | cons x r ih =>
   have h1 := h x (by simp) k
   have h2 := ih (fun y hy => h y (by simp [hy])) (mD k x).1
   unfold wDs mAll
   dsimp only
   omega
 ·have h1 := h (k + 1 + 1 + 1)
  have h2 := fN d
  rw [mD_eq]
  dsimp only
  omega
theorem dS : ∀ (n : Nat) (ds : List PD) (k : Int), PD.cnts ds < n → wDs ds ≤ 4000000 → 0 ≤ k → k + 6 * ((wDs ds : Nat) : Int) ≤ 1000000000000 → j5 n ds k = some (mAll mD k ds)
 | 0, ds, k, h, _, _, _ => by omega
 | n + 1, ds, k, h, hc, h0, h1 => by
  show A8 (j5 n) ds k = _
  unfold A8
  have hl := PD.cnts_len ds
  have hw := kK.2 ds
  refine mark_loopG (L := L3 (j5 n)) wD (fun x => wD x ≤ 4000000 ∧ x.cnt < n) 1000000000000 (fun k x => mD_le.1 x k) (fun go i k1 a hi ha hx hk hB => ?_) (fun go k1 a => ?_) ds (fun x hx => ⟨by have := bO hx; omega, by have := PD.cnts_mem hx; omega⟩) (by omega) k h0 (by rw [← wDs_eq]; exact h1)
  ·show m6 (j5 n) go k1 (i : Int) a = _
   unfold m6
   have hwi := fN a[i]
   have hci := PD.cnt_eq a[i]
   simp only [Int.toNat_natCast, List.set_set]
   rw [if_pos (by omega), l6 hi, f5, j3 (by omega), fE hi, f5, j3 (by omega), iP (by omega), f5, fE hi, f5, j3 (by omega), fE hi, f5]
   try simp only [lZ, mk_kind, iQ, mk_text]
   rw [dS n a[i].items (k1 + 1 + 1 + 1) (by omega) (by omega) (by omega) (by omega), f5]
   refine (j3 (X3 mD a[i].items _)).trans ((j3 (by omega)).trans ?_)
   rw [mD_eq]
  ·show m6 (j5 n) go k1 _ a = _
   unfold m6
   rw [if_neg (by omega)]
theorem dL : ∀ (n : Nat) (ds : List PD) (k : Int), PD.cnts ds < n → wDs ds ≤ 4000000 → 0 ≤ k → k + 6 * ((wDs ds : Nat) : Int) ≤ 1000000000000 → k7 n (mAll mD k ds).2 k = some (mAll mD k ds).1
 | 0, ds, k, h, _, _, _ => by omega
 | n + 1, ds, k, h, hc, h0, h1 => by
  show I2 (k7 n) (mAll mD k ds).2 k = _
  unfold I2
  have hl := PD.cnts_len ds
  have hw := kK.2 ds
  have hal : (mAll mD k ds).2.length = ds.length := X3 _ _ _
  refine held_loopG (L := S8 (k7 n) (mAll mD k ds).2) wD (fun x => wD x ≤ 4000000 ∧ x.cnt < n) 1000000000000 (mAll mD k ds).2 (fun k x => mD_le.1 x k) (fun go i k1 hi x hx hS hk hB => ?_) (fun go k1 => ?_) ds (fun x hx => ⟨by have := bO hx; omega, by have := PD.cnts_mem hx; omega⟩) (by omega) k h0 (by rw [← wDs_eq]; exact h1) rfl
  ·show v8 (k7 n) (mAll mD k ds).2 go k1 (i : Int) = _
   unfold v8
   have hwi := fN x
   have hci := PD.cnt_eq x
   have hle := mD_le.2 x.items (k1 + 1 + 1 + 1)
   rw [mD_eq] at hx
   rw [if_pos (by omega), l6 hi, hx]
   simp only [f5, lZ, mk_kind, iQ, mk_text]
   rw [if_pos trivial, j3 (by omega), if_pos trivial, j3 (by omega), iP (by omega), f5]
   refine (if_pos rfl).trans ?_
   rw [j3 (by omega), dL n x.items (k1 + 1 + 1 + 1) (by omega) (by omega) (by omega) (by omega), f5, if_neg (by omega), j3 (by omega), mD_eq]
  ·show v8 (k7 n) (mAll mD k ds).2 go k1 _ = _
   unfold v8
   rw [if_neg (by omega)]
end Go.Abs
