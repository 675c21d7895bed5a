
import Derived.Test.YtefjnefkdanakaaGreatDoorLibS
import Derived.Test.YtefjnefkdanakaaGreatDoorLibV
import Derived.Lib.SplitLaws
import Derived.Test.YtefjnefkdanakaaGreatDoorLibP
set_option linter.unusedVariables false
set_option linter.unusedSimpArgs false
namespace Go.Abs
open Go.Lib (decFrom decNat itoa decDigits digitVal atoi)
open PD
theorem dec_bound : ∀ (l : List UInt8) (acc m : Nat), decFrom acc l = some m → m < (acc + 1) * 10 ^ l.length
 | [], acc, m, h => by simp [decFrom] at h; subst h; simp
 | b :: r, acc, m, h => by
  unfold decFrom digitVal at h;split at h
  ·rename_i d hd;split at hd
   ·simp only [Option.some.injEq] at hd;have h2 := dec_bound r _ m h;have h3 : (acc * 10 + d + 1) * 10 ^ r.length ≤ (acc + 1) * 10 * 10 ^ r.length := Nat.mul_le_mul_right _ (by omega);rw [List.length_cons, Nat.pow_succ, Nat.mul_comm (10 ^ r.length) 10, ← Nat.mul_assoc];omega
   ·cases hd
  ·cases h
theorem dec_lt {l : List UInt8} {m : Nat} (h : decFrom 0 l = some m) (hl : l.length ≤ 9) : m ≤ 999999999 := by
 have h1 := dec_bound l 0 m h;have h2 : (10 : Nat) ^ l.length ≤ 10 ^ 9 := Nat.pow_le_pow_right (by omega) hl;omega
def numS (s : List UInt8) : Int × Bool := match s with
 | [] => (0, false)
 | b :: r => if b = 45 then (if r.length = 0 ∨ 9 < r.length then (0, false) else match decFrom 0 r with
  | none => (0, false)
  | some m => if itoa (-(m : Int)) = s then (-(m : Int), true) else (0, false))
  else (if 9 < s.length then (0, false) else match decFrom 0 s with
   | none => (0, false)
   | some m => if itoa (m : Int) = s then ((m : Int), true) else (0, false))
theorem zY (s : List UInt8) : -999999999 ≤ (numS s).1 ∧ (numS s).1 ≤ 999999999 := by
 unfold numS;split
 ·simp
 ·split
  ·split
   ·simp
   ·rename_i h9;split
    ·simp
    ·rename_i m hm;have := dec_lt hm (by omega);split <;> dsimp only <;> omega
  ·split
   ·simp
   ·rename_i h9;split
    ·simp
    ·rename_i m hm;have := dec_lt hm (by omega);split <;> dsimp only <;> omega
theorem qD (b : UInt8) (r : List UInt8) : numS (b :: r) = if b = 45 then (if r.length = 0 ∨ 9 < r.length then (0, false) else match decFrom 0 r with
 | none => (0, false)
 | some m => if itoa (-(m : Int)) = b :: r then (-(m : Int), true) else (0, false))
 else (if 9 < (b :: r).length then (0, false) else match decFrom 0 (b :: r) with
  | none => (0, false)
  | some m => if itoa (m : Int) = b :: r then ((m : Int), true) else (0, false)) := rfl
def finN (s : List UInt8) (x3 : Int) (m : Nat) : Option (Int × Bool) :=
 if x3 = 1 then (if itoa (-(m : Int)) = s then some (-(m : Int), true) else some (0, false)) else (if itoa (m : Int) = s then some ((m : Int), true) else some (0, false))
theorem xM (s : List UInt8) (x3 : Nat) (hx1 : x3 ≤ 1) (hx : x3 ≤ s.length) (h9 : s.length - x3 ≤ 9) :
 itr (X2 s (x3 : Int)) LF (0, (x3 : Int)) = match decFrom 0 (s.drop x3) with | none => some (0, false) | some m => finN s (x3 : Int) m := by
 refine (kW (L := X2 s (x3 : Int)) (fun v => match decFrom v.1.toNat (s.drop v.2.toNat) with | none => some (0, false) | some m => finN s (x3 : Int) m) (fun v => 0 ≤ v.1 ∧ ((x3 : Int) ≤ v.2 ∧ v.2 ≤ s.length) ∧ v.1.toNat < 10 ^ (v.2.toNat - x3)) (fun v => s.length - v.2.toNat) (fun go v hv hgo => ?_) (0, (x3 : Int)) ⟨Int.le_refl _, ⟨Int.le_refl _, by show (x3 : Int) ≤ _; omega⟩, by simp⟩ (by show s.length - _ < _; omega)).trans ?_
 ·obtain ⟨acc, j⟩ := v;obtain ⟨h0, ⟨h1, h2⟩, h3⟩ := hv;dsimp only at h0 h1 h2 h3 ⊢;obtain ⟨i, rfl⟩ := Int.eq_ofNat_of_zero_le (show 0 ≤ j by omega);obtain ⟨a, rfl⟩ := Int.eq_ofNat_of_zero_le h0;simp only [Int.ofNat_eq_natCast, Int.toNat_natCast] at *;have hp : (10 : Nat) ^ (i - x3) ≤ 10 ^ 9 := Nat.pow_le_pow_right (by omega) (by omega);show O6 s (x3 : Int) go (a : Int) (i : Int) = _;unfold O6;by_cases hi : i < s.length
  ·rw [if_pos (by omega), o9 hi, f7, lP, f7, List.drop_eq_getElem_cons hi];unfold decFrom digitVal;by_cases hd : 48 ≤ (s[i]).toNat ∧ (s[i]).toNat ≤ 57
   ·have hb : (decide (48 ≤ ((s[i]).toNat : Int)) && decide (((s[i]).toNat : Int) ≤ 57)) = true := by simp; omega
    rw [if_pos hb, if_pos hd, j5 (by omega), f7, j5 (by omega), j5 (by omega), j5 (by omega), j5 (by omega)];have e : (10 * (a : Int) + (((s[i]).toNat : Int) - 48)).toNat = a * 10 + ((s[i]).toNat - 48) := by omega
    have e2 : ((i : Int) + 1).toNat = i + 1 := by omega
    have hk := hgo (10 * (a : Int) + (((s[i]).toNat : Int) - 48), (i : Int) + 1) ⟨by dsimp only; omega, ⟨by dsimp only; omega, by dsimp only; omega⟩, by
     dsimp only;rw [e, e2, show i + 1 - x3 = (i - x3) + 1 by omega, Nat.pow_succ]; omega⟩ (by dsimp only; omega)
    rw [hk];dsimp only;rw [e, e2]
   ·have hb : (decide (48 ≤ ((s[i]).toNat : Int)) && decide (((s[i]).toNat : Int) ≤ 57)) = false := by
     rw [Bool.eq_false_iff]; simp; omega
    rw [if_neg (by rw [hb]; simp), if_neg hd]
  ·have hie : i = s.length := by omega
   subst hie;rw [if_neg (by omega), List.drop_length];unfold decFrom finN;dsimp only;by_cases h1 : (x3 : Int) = 1
   ·rw [if_pos h1, if_pos h1, j5 (by omega), D7 _ (by omega), f7]
   ·rw [if_neg h1, if_neg h1, D7 _ (by omega), f7]
 ·rfl
theorem byte_eq (b : UInt8) (n : Nat) (hn : n < 256) : (decide ((b.toNat : Int) = (n : Int))) = decide (b = UInt8.ofNat n) := by
 refine decide_eq_decide.2 ⟨fun h => ?_, fun h => ?_⟩
 ·have : b.toNat = n := by omega
  rw [← this]; simp
 ·subst h;rw [UInt8.toNat_ofNat_of_lt' hn]
theorem cL (s : List UInt8) (h : SM s) : K5 s = some (numS s) := by
 unfold K5;have hsm : s.length ≤ 9223372036854775806 := h;cases s with
 | nil =>
  rw [if_neg (by simp)];unfold F3 D0;rw [if_neg (by simp), if_pos (by simp), numS]
 | cons b r =>
  have e45 : decide ((b.toNat : Int) = 45) = decide (b = 45) := byte_eq b 45 (by omega);rw [if_pos (by simp only [List.length_cons]; omega), show nth (b :: r) 0 = some b from rfl, f7, e45];unfold F3;rw [qD];simp only [List.length_cons] at hsm;by_cases hb : b = 45
  ·rw [decide_eq_true hb, if_pos rfl];unfold D0;rw [if_pos hb, List.length_cons];by_cases h0 : r.length = 0
   ·rw [if_pos (by omega), if_pos (.inl h0)]
   ·rw [if_neg (by omega), j5 (by omega)];by_cases h9 : 9 < r.length
    ·rw [if_pos (by omega), if_pos (.inr h9)]
    ·rw [if_neg (by omega), if_neg (by omega)];have key := xM (b :: r) 1 (by omega) (by simp) (by simp; omega);refine key.trans ?_;rw [show (b :: r).drop 1 = r from rfl];unfold finN;cases decFrom 0 r with
     | none => rfl
     | some m =>
      dsimp only;rw [if_pos (show ((1 : Nat) : Int) = 1 from rfl)];split <;> rfl
  ·rw [decide_eq_false hb, if_neg (by simp)];unfold D0;rw [if_neg hb, List.length_cons, if_neg (by omega), j5 (by omega)];by_cases h9 : 9 < r.length + 1
   ·rw [if_pos (by omega), if_pos h9]
   ·rw [if_neg (by omega), if_neg h9];have key := xM (b :: r) 0 (by omega) (by simp) (by simp; omega);refine key.trans ?_;rw [show (b :: r).drop 0 = b :: r from rfl];unfold finN;cases decFrom 0 (b :: r) with
    | none => rfl
    | some m =>
     dsimp only;rw [if_neg (by omega)];split <;> rfl
theorem dig_of : ∀ (n u : Nat), u < n → ∀ b ∈ decDigits u, 48 ≤ b.toNat ∧ b.toNat ≤ 57
 | 0, u, h, _, _ => by omega
 | n + 1, u, h, b, hb => by
  have hof : ∀ k, k < 10 → (UInt8.ofNat (48 + k)).toNat = 48 + k := fun k hk => UInt8.toNat_ofNat_of_lt' (by show 48 + k < 256; omega);by_cases hu : u < 10
  ·rw [kK hu, List.mem_singleton] at hb;subst hb;rw [hof u hu]; omega
  ·rw [ab8 hu] at hb;rcases List.mem_append.1 hb with hb | hb
   ·exact dig_of n (u / 10) (by omega) b hb
   ·rw [List.mem_singleton] at hb;subst hb;rw [hof (u % 10) (by omega)]; omega
def aR (o : Option Int) : Int × Bool := match o with
 | some n => (n, false)
 | none => (0, true)
theorem atoiR_cons (b : UInt8) (r : List UInt8) : atoiR (b :: r) = aR (if b = 45 then (decNat r).map fun (m : Nat) => -(m : Int) else if b = 43 then (decNat r).map fun (m : Nat) => (m : Int) else (decNat (b :: r)).map fun (m : Nat) => (m : Int)) := by
 unfold atoiR atoi;by_cases h1 : b = 45
 ·subst h1; rfl
 ·by_cases h2 : b = 43
  ·subst h2; rfl
  ·simp only [beq_iff_eq, h1, h2, if_false]; rfl
def tailN (s : List UInt8) (x2 : Int × Bool) : Option (Int × Bool) :=
 if x2.2 = true then some (0, false) else if x2.1 < (-999999999) then some (0, false) else if x2.1 > 999999999 then some (0, false) else
 bnd (w8 x2.1) fun x3 => if x3 = s then some (x2.1, true) else some (0, false)
theorem iF (s : List UInt8) : tailN s (aR none) = some (0, false) := by
 unfold tailN aR;rw [if_pos rfl]
theorem tailN_big (s : List UInt8) (n : Int) (h : n > 999999999) : tailN s (aR (some n)) = some (0, false) := by
 unfold tailN aR;dsimp only;rw [if_neg (by simp), if_neg (by omega), if_pos h]
theorem nE (s : List UInt8) (n : Int) (h : -999999999 ≤ n ∧ n ≤ 999999999) : tailN s (aR (some n)) = some (if itoa n = s then (n, true) else (0, false)) := by
 unfold tailN aR;dsimp only;rw [if_neg (by simp), if_neg (by omega), if_neg (by omega), N8 n h, f7];split <;> rfl
theorem uK (m : Nat) : itoa (m : Int) = decDigits m := by unfold itoa; rw [if_neg (by omega), Int.toNat_natCast]
theorem cB (s : List UInt8) (h : SM s) : P7 s = some (numS s) := by
 unfold P7;cases s with
 | nil => rw [if_pos (by simp)]; rfl
 | cons b r =>
  rw [if_neg (by simp only [List.length_cons]; omega)];by_cases hl : ((b :: r).length : Int) > 10
  ·rw [if_pos hl, qD];simp only [List.length_cons] at hl ⊢;by_cases hb : b = 45
   ·rw [if_pos hb, if_pos (.inr (by omega))]
   ·rw [if_neg hb, if_pos (by omega)]
  ·rw [if_neg hl];simp only [List.length_cons] at hl;unfold x_Atoi;rw [j5 (by simp only [List.length_cons]; omega), f7];show tailN (b :: r) (atoiR (b :: r)) = _;rw [atoiR_cons, qD];by_cases hb : b = 45
   ·rw [if_pos hb, if_pos hb];unfold decNat;cases r with
    | nil => rw [if_pos (show ([] : List UInt8).isEmpty = true from rfl), Option.map_none, iF, if_pos (.inl rfl)]
    | cons c t =>
     simp only [List.length_cons] at hl ⊢;rw [if_neg (show ¬ (c :: t).isEmpty = true by simp), if_neg (show ¬ (t.length + 1 = 0 ∨ 9 < t.length + 1) by omega)];cases hd : decFrom 0 (c :: t) with
     | none => rw [Option.map_none, iF]
     | some m =>
      have hm := dec_lt hd (by simp only [List.length_cons]; omega);rw [Option.map_some, nE _ _ (by omega)]
   ·rw [if_neg hb, if_neg hb];by_cases hp : b = 43
    ·rw [if_pos hp];have hn : decFrom 0 (b :: r) = none := by unfold decFrom digitVal; rw [hp]; rfl
     rw [hn];have hR : (if 9 < (b :: r).length then ((0 : Int), false) else match (none : Option Nat) with | none => (0, false) | some m => if itoa (m : Int) = b :: r then ((m : Int), true) else (0, false)) = (0, false) := by split <;> rfl
     rw [hR];unfold decNat;cases r with
     | nil => rw [if_pos (show ([] : List UInt8).isEmpty = true from rfl), Option.map_none, iF]
     | cons c t =>
      simp only [List.length_cons] at hl;rw [if_neg (show ¬ (c :: t).isEmpty = true by simp)];cases hd : decFrom 0 (c :: t) with
      | none => rw [Option.map_none, iF]
      | some m =>
       have hm := dec_lt hd (by simp only [List.length_cons]; omega);rw [Option.map_some, nE _ _ (by omega), if_neg];intro e;rw [uK] at e;have h2 := dig_of (m + 1) m (by omega) b (by rw [e]; simp);rw [hp] at h2;have h3 : (43 : UInt8).toNat = 43 := rfl;omega
    ·rw [if_neg hp];have e : decNat (b :: r) = decFrom 0 (b :: r) := rfl;rw [e];cases hd : decFrom 0 (b :: r) with
     | none =>
      rw [Option.map_none, iF];split <;> rfl
     | some m =>
      rw [Option.map_some];by_cases h9 : 9 < (b :: r).length
      ·rw [if_pos h9];by_cases hm : (m : Int) > 999999999
       ·rw [tailN_big _ _ hm]
       ·rw [nE _ _ (by omega), if_neg];intro e;have h2 := vJ m (by omega);rw [uK] at e;rw [e] at h2; omega
      ·rw [if_neg h9];have hm := dec_lt hd (by omega);rw [nE _ _ (by omega)]
def fnd (p : UInt8 → Bool) : List UInt8 → Nat
 | [] => 0
 | b :: r => if p b = true then 0 else 1 + fnd p r
theorem iP (p : UInt8 → Bool) (b : UInt8) (r : List UInt8) : fnd p (b :: r) = if p b = true then 0 else 1 + fnd p r := rfl
theorem fnd_le (p : UInt8 → Bool) : ∀ l : List UInt8, fnd p l ≤ l.length
 | [] => Nat.le_refl _
 | b :: r => by
  have := fnd_le p r;unfold fnd;split <;> simp <;> omega
theorem fnd_drop (p : UInt8 → Bool) {l : List UInt8} {i : Nat} (h : i < l.length) : fnd p (l.drop i) = if p l[i] = true then 0 else 1 + fnd p (l.drop (i + 1)) := by
 rw [List.drop_eq_getElem_cons h, fnd]
theorem fnd_end (p : UInt8 → Bool) (l : List UInt8) : fnd p (l.drop l.length) = 0 := by rw [List.drop_length]; rfl
theorem scan {σ R : Type} {L : (σ → Option R) → σ → Option R} (mk : Nat → σ) (src : List UInt8) (P : UInt8 → Bool) (F : Nat → Option R)
 (step : ∀ go (i : Nat) (hi : i < src.length), P src[i] = false → L go (mk i) = go (mk (i + 1)))
 (hit : ∀ go (i : Nat) (hi : i < src.length), P src[i] = true → L go (mk i) = F i)
 (fin : ∀ go, L go (mk src.length) = F src.length) : ∀ (m i : Nat), i ≤ src.length → src.length - i < m → itr L m (mk i) = F (i + fnd P (src.drop i))
 | 0, i, _, h => by omega
 | m + 1, i, hi, h => by
  show L (itr L m) (mk i) = _;by_cases hl : i < src.length
  ·rw [fnd_drop P hl];cases hp : P src[i]
   ·rw [if_neg (by simp), step _ i hl hp, scan mk src P F step hit fin m (i + 1) (by omega) (by omega), Nat.add_assoc]
   ·rw [if_pos rfl, hit _ i hl hp]; rfl
  ·have : i = src.length := by omega
   subst this;rw [fin, fnd_end]; rfl
theorem scanLF {σ R : Type} {L : (σ → Option R) → σ → Option R} (mk : Nat → σ) (src : List UInt8) (P : UInt8 → Bool) (F : Nat → Option R) (hl : src.length ≤ 1000000000)
 (step : ∀ go (i : Nat) (hi : i < src.length), P src[i] = false → L go (mk i) = go (mk (i + 1)))
 (hit : ∀ go (i : Nat) (hi : i < src.length), P src[i] = true → L go (mk i) = F i)
 (fin : ∀ go, L go (mk src.length) = F src.length) (i : Nat) (hi : i ≤ src.length) : itr L LF (mk i) = F (i + fnd P (src.drop i)) := by
 rw [LF_eq]; exact scan mk src P F step hit fin _ i hi (by omega)
def isB (n : Int) (b : UInt8) : Bool := decide ((b.toNat : Int) = n)
theorem isB_eq (b : UInt8) : isB 32 b = decide (b = 32) := byte_eq b 32 (by omega)
theorem wB : ∀ s : List UInt8, Go.Lib.index s [32] = if fnd (isB 32) s < s.length then ((fnd (isB 32) s : Nat) : Int) else -1
 | [] => rfl
 | b :: l => by
  have ih := wB l;have e := isB_eq b;unfold Go.Lib.index;by_cases hb : b = 32
  ·have f1 : fnd (isB 32) (b :: l) = 0 := by rw [iP, e, decide_eq_true hb, if_pos rfl]
   rw [f1, if_pos (by rw [hb]; simp), if_pos (by simp)]; rfl
  ·have f1 : fnd (isB 32) (b :: l) = 1 + fnd (isB 32) l := by rw [iP, e, decide_eq_false hb, if_neg (by simp)]
   have hp : ¬ ([32] : List UInt8).isPrefixOf (b :: l) = true := by
    simp [List.isPrefixOf]; exact fun h => hb h.symm
   rw [if_neg hp, ih, f1];have hle := fnd_le (isB 32) l;by_cases hl : fnd (isB 32) l < l.length
   ·have e1 : ¬ ((((fnd (isB 32) l : Nat) : Int) == -1) = true) := by simp
    rw [if_pos hl, if_pos (show 1 + fnd (isB 32) l < (b :: l).length by rw [List.length_cons]; omega), if_neg e1];omega
   ·rw [if_neg hl, if_neg (show ¬ 1 + fnd (isB 32) l < (b :: l).length by rw [List.length_cons]; omega)]; rfl
def words (s : List UInt8) : List UInt8 × List UInt8 := if fnd (isB 32) s < s.length then (s.take (fnd (isB 32) s), s.drop (fnd (isB 32) s + 1)) else (s, [])
theorem x_Cut_eq (s : List UInt8) (h : s.length ≤ 1048576) : ∃ f, x_Cut s [32] = some ((words s).1, (words s).2, f) := by
 unfold x_Cut Go.Lib.cut words;rw [j5 (by omega), wB];by_cases hl : fnd (isB 32) s < s.length
 ·rw [if_pos hl, if_pos (by omega), if_pos hl, Int.toNat_natCast]; exact ⟨_, rfl⟩
 ·rw [if_neg hl, if_neg (by omega), if_neg hl]; exact ⟨_, rfl⟩
theorem V4 (s : List UInt8) (h : s.length ≤ 1048576) : S8 s = some (words s) := by
 unfold S8;have key := scanLF (L := jM s) (fun i => (i : Int)) s (isB 32) (fun e => if e < s.length then some (s.take e, s.drop (e + 1)) else some (s, [])) (by omega) (fun go i hi hp => ?_) (fun go i hi hp => ?_) (fun go => ?_) 0 (Nat.zero_le _)
 ·refine key.trans ?_;rw [Nat.zero_add, List.drop_zero];unfold words;split <;> rfl
 ·show E8 s go (i : Int) = _;unfold E8;have hp' : ¬ ((s[i]).toNat : Int) = 32 := by unfold isB at hp; simpa using hp
  rw [if_pos (by omega), o9 hi, f7, if_neg hp', j5 (by omega)]; rfl
 ·show E8 s go (i : Int) = _;unfold E8;have hp' : ((s[i]).toNat : Int) = 32 := by unfold isB at hp; simpa using hp
  have e : ((i : Int) + 1).toNat = i + 1 := by omega
  rw [if_pos (by omega), o9 hi, f7, if_pos hp', j5 (by omega), j5 (by omega), j5 (by omega), Int.toNat_natCast, e, if_pos hi]
 ·show E8 s go (s.length : Int) = _;unfold E8;rw [if_neg (by omega), if_neg (by omega)]
theorem lZ (s : List UInt8) : (words s).2.length ≤ s.length := by
 unfold words;split
 ·simp
 ·simp
theorem pB (d : PD) (r : List PD) : cnts (d :: r) = 1 + d.cnt + cnts r := by rw [cnts]
theorem depths_cons (d : PD) (r : List PD) : depths (d :: r) = max d.depth (depths r) := by rw [depths]
theorem okAlls_cons (d : PD) (r : List PD) : okAlls (d :: r) = (d.okAll && okAlls r) := by rw [okAlls]
theorem iM : ∀ a b : List PD, cnts (a ++ b) = cnts a + cnts b
 | [], b => by simp [cnts]
 | x :: a, b => by
  have := iM a b;rw [List.cons_append, pB, pB];omega
theorem mG (d : PD) : cnts [d] = d.cnt + 1 := by rw [pB]; show 1 + d.cnt + 0 = _; omega
def areD (ds : List PD) : Bool := (measL ds 1 0).1
theorem areD_iff (ds : List PD) : areD ds = true ↔ depths ds ≤ 20 ∧ (cnts ds : Int) ≤ 600 ∧ okAlls ds = true := by
 unfold areD;rw [(pZ.2 ds 1 0 (by omega) (by omega)).1];constructor
 ·rintro ⟨h1, h2, h3⟩; exact ⟨by omega, by omega, h3⟩
 ·rintro ⟨h1, h2, h3⟩; exact ⟨by omega, by omega, h3⟩
theorem uZ : ∀ ds : List PD, (cnts ds : Int) ≤ 600 → (ds.all valid = true ↔ depths ds ≤ 20 ∧ okAlls ds = true)
 | [], _ => by simp [depths, okAlls]
 | d :: r, h => by
  have hc : cnts (d :: r) = d.cnt + 1 + cnts r := by have := iM [d] r; rw [mG] at this; exact this
  have ih := uZ r (by omega);rw [List.all_cons, Bool.and_eq_true, ih];rw [depths_cons, okAlls_cons];unfold valid;simp only [Bool.and_eq_true, decide_eq_true_eq];constructor
  ·rintro ⟨⟨h1, h2, h3⟩, h4, h5⟩; exact ⟨by omega, h3, h5⟩
  ·rintro ⟨h1, h2, h3⟩; exact ⟨⟨by omega, by omega, h2⟩, by omega, h3⟩
theorem i_AreData_eq (ds : List PD) (hs : ∀ x ∈ ds, x.small) (hl : ds.length ≤ 1048576) : kM ds = some (areD ds) := by
 unfold kM areD;rw [K2 (L := kN ds) ds.length (fun i a => 0 ≤ a ∧ a ≤ 600) (fun i a => some (measL (ds.drop i) 1 a).1) (by omega) (fun go i a hi ha hgo => ?_) (fun go a ha => ?_) (by omega)]
 ·rfl
 ·show P4 ds go i a = _;unfold P4;have hsm := hs _ (List.getElem_mem hi);rw [if_pos (by omega), o9 hi, f7, kR RF _ 1 a (RF_cnt hsm) hsm (by omega) (by omega) ha.1 ha.2, f7, List.drop_eq_getElem_cons hi, measL];by_cases hm : (meas ds[i] 1 a).1 = true
  ·have h1 := (pZ.1 ds[i] 1 a)
   have h2 := h1.1.1 hm;have h3 := h1.2 hm;rw [if_pos hm, if_pos hm, j5 (by omega), hgo _ ⟨by omega, by omega⟩]
  ·rw [if_neg hm, if_neg hm]
 ·show P4 ds go _ a = _;unfold P4;rw [if_neg (by omega), List.drop_length]; rfl
theorem lE : ∀ (n : Nat) (d : PD), d.cnt < n → d.small → s8 n d = some ((d.cnt : Int) + 1)
 | 0, d, h, _ => by omega
 | n + 1, d, h, hd => by
  show W2 (s8 n) d = _;unfold W2;have hs := aL hd;have hc := hd.2;have hcc := cnt_eq d;refine (kW (L := eA (s8 n) d) (fun v => some (v.1 + (cnts (d.items.drop v.2.toNat) : Int))) (fun v => (0 ≤ v.2 ∧ v.2 ≤ d.items.length) ∧ 0 ≤ v.1 ∧ v.1 + (cnts (d.items.drop v.2.toNat) : Int) ≤ 2000000) (fun v => d.items.length - v.2.toNat) (fun go v hv hgo => ?_) (1, 0) ⟨⟨Int.le_refl _, by show (0 : Int) ≤ _; omega⟩, by show (0 : Int) ≤ 1; omega, by show (1 : Int) + (cnts (d.items.drop 0) : Int) ≤ _; rw [List.drop_zero]; omega⟩ (by show d.items.length - 0 < _; omega)).trans ?_
  ·obtain ⟨a, j⟩ := v;obtain ⟨⟨h0, h1⟩, h2, h3⟩ := hv;dsimp only at h0 h1 h2 h3 ⊢;obtain ⟨i, rfl⟩ := Int.eq_ofNat_of_zero_le h0;simp only [Int.ofNat_eq_natCast, Int.toNat_natCast] at *;show R6 (s8 n) d go a (i : Int) = _;unfold R6;by_cases hi : i < d.items.length
   ·have hit := B9 hd hi;rw [List.drop_eq_getElem_cons hi] at h3 ⊢;have hx : cnts (d.items[i] :: d.items.drop (i + 1)) = d.items[i].cnt + 1 + cnts (d.items.drop (i + 1)) := by have := iM [d.items[i]] (d.items.drop (i + 1)); rw [mG] at this; exact this
    rw [hx] at h3 ⊢;have e2 : ((i : Int) + 1).toNat = i + 1 := by omega
    rw [if_pos (by omega), o9 hi, f7, lE n _ (by omega) hit.1, f7, j5 (by omega), j5 (by omega), hgo (a + (d.items[i].cnt + 1 : Int), (i : Int) + 1) ⟨⟨by dsimp only; omega, by dsimp only; omega⟩, by dsimp only; omega, by dsimp only; rw [e2]; omega⟩ (by dsimp only; omega)];dsimp only;rw [e2];exact congrArg some (by omega)
   ·have : i = d.items.length := by omega
    subst this;rw [if_neg (by omega), List.drop_length];simp [cnts]
  ·show some ((1 : Int) + (cnts (d.items.drop 0) : Int)) = _;rw [List.drop_zero, ← hcc];exact congrArg some (by omega)
def leS (a : Int) (l : List PD) : Bool := l.all valid && decide (a + (cnts l : Int) ≤ 600)
theorem s_AreData_eq (ds : List PD) (hs : ∀ x ∈ ds, x.small) (hc : cnts ds ≤ 1048576) : lC ds = some (areD ds) := by
 unfold lC;have hl := cnts_len ds;have e : areD ds = (ds.all valid && decide ((cnts ds : Int) ≤ 600)) := by
  rw [Bool.eq_iff_iff, areD_iff, Bool.and_eq_true, decide_eq_true_eq];constructor
  ·rintro ⟨h1, h2, h3⟩; exact ⟨(uZ ds h2).2 ⟨h1, h3⟩, h2⟩
  ·rintro ⟨h1, h2⟩;have h3 := (uZ ds h2).1 h1;exact ⟨h3.1, h2, h3.2⟩
 rw [e];refine (kW (L := lD ds) (fun v => some (leS v.1 (ds.drop v.2.toNat))) (fun v => (0 ≤ v.2 ∧ v.2 ≤ ds.length) ∧ 0 ≤ v.1 ∧ v.1 + (cnts (ds.drop v.2.toNat) : Int) ≤ 2000000) (fun v => ds.length - v.2.toNat) (fun go v hv hgo => ?_) (0, 0) ⟨⟨Int.le_refl _, by show (0 : Int) ≤ _; omega⟩, by show (0 : Int) ≤ 0; omega, by show (0 : Int) + (cnts (ds.drop 0) : Int) ≤ _; rw [List.drop_zero]; omega⟩ (by show ds.length - 0 < _; omega)).trans ?_
 ·obtain ⟨a, j⟩ := v;obtain ⟨⟨h0, h1⟩, h2, h3⟩ := hv;dsimp only at h0 h1 h2 h3 ⊢;obtain ⟨i, rfl⟩ := Int.eq_ofNat_of_zero_le h0;simp only [Int.ofNat_eq_natCast, Int.toNat_natCast] at *;show aD ds go a (i : Int) = _;unfold aD;by_cases hi : i < ds.length
  ·have hsm := hs _ (List.getElem_mem hi);rw [List.drop_eq_getElem_cons hi] at h3 ⊢;have hx : cnts (ds[i] :: ds.drop (i + 1)) = ds[i].cnt + 1 + cnts (ds.drop (i + 1)) := by have := iM [ds[i]] (ds.drop (i + 1)); rw [mG] at this; exact this
   rw [hx] at h3;have e2 : ((i : Int) + 1).toNat = i + 1 := by omega
   rw [if_pos (by omega), o9 hi, f7, tD _ hsm, f7];have hL : leS a (ds[i] :: ds.drop (i + 1)) = (valid ds[i] && leS (a + (ds[i].cnt + 1 : Int)) (ds.drop (i + 1))) := by
    unfold leS;rw [List.all_cons, hx, Bool.and_assoc];congr 2;exact decide_eq_decide.2 (by omega)
   rw [hL];cases hv : valid ds[i]
   ·simp
   ·rw [if_pos rfl, lE RF _ (RF_cnt hsm) hsm, f7, j5 (by omega), j5 (by omega), hgo (a + (ds[i].cnt + 1 : Int), (i : Int) + 1) ⟨⟨by dsimp only; omega, by dsimp only; omega⟩, by dsimp only; omega, by dsimp only; rw [e2]; omega⟩ (by dsimp only; omega)];dsimp only;rw [e2, Bool.true_and]
  ·have : i = ds.length := by omega
   subst this;rw [if_neg (by omega), List.drop_length];unfold leS;simp [cnts]
 ·show some (leS 0 (ds.drop 0)) = _;rw [List.drop_zero];unfold leS;simp
end Go.Abs

namespace Go.Abs
open PD
def blank (b : UInt8) : Bool := isB 32 b || (isB 10 b || isB 9 b)
def skN (src : List UInt8) : Nat → Nat → Nat
 | 0, p => p
 | m + 1, p => if h : p < src.length then (if blank src[p] = true then skN src m (p + 1) else if isB 59 src[p] = true then skN src m (p + fnd (isB 10) (src.drop p)) else p) else p
def sk (src : List UInt8) (p : Nat) : Nat := skN src (src.length + 1) p
theorem com_pos {src : List UInt8} {p : Nat} (h : p < src.length) (h9 : isB 59 src[p] = true) : 1 ≤ fnd (isB 10) (src.drop p) ∧ p + fnd (isB 10) (src.drop p) ≤ src.length := by
 have h1 := fnd_le (isB 10) (src.drop p);rw [List.length_drop] at h1;rw [fnd_drop _ h] at h1 ⊢;have h2 : isB 10 src[p] = false := by
  unfold isB at h9 ⊢;simp only [decide_eq_true_eq] at h9;simp; omega
 rw [h2, if_neg (by simp)] at h1 ⊢;omega
theorem skN_le (src : List UInt8) : ∀ (m p : Nat), p ≤ src.length → p ≤ skN src m p ∧ skN src m p ≤ src.length
 | 0, p, h => ⟨Nat.le_refl _, h⟩
 | m + 1, p, h => by
  unfold skN;split
  ·rename_i hp;split
   ·have := skN_le src m (p + 1) (by omega); omega
   ·split
    ·rename_i h9;have h1 := com_pos hp h9;have := skN_le src m _ h1.2; omega
    ·omega
  ·omega
theorem sk_le {src : List UInt8} {p : Nat} (h : p ≤ src.length) : p ≤ sk src p ∧ sk src p ≤ src.length := skN_le src _ p h
theorem rE {σ R : Type} {L : (σ → Option R) → σ → Option R} (mk : Nat → σ) (src : List UInt8) (F : Nat → Option R)
 (step : ∀ go (i : Nat) (hi : i < src.length), blank src[i] = true → L go (mk i) = go (mk (i + 1)))
 (com : ∀ go (i : Nat) (hi : i < src.length), blank src[i] = false → isB 59 src[i] = true → L go (mk i) = go (mk (i + fnd (isB 10) (src.drop i))))
 (hit : ∀ go (i : Nat) (hi : i < src.length), blank src[i] = false → isB 59 src[i] = false → L go (mk i) = F i)
 (fin : ∀ go, L go (mk src.length) = F src.length) : ∀ (m M i : Nat), i ≤ src.length → src.length - i < m → src.length - i < M → itr L M (mk i) = F (skN src m i)
 | 0, M, i, _, h, _ => by omega
 | m + 1, 0, i, _, _, h => by omega
 | m + 1, M + 1, i, hi, h, h' => by
  show L (itr L M) (mk i) = _;unfold skN;by_cases hl : i < src.length
  ·rw [dif_pos hl];cases hb : blank src[i]
   ·rw [if_neg (by simp)];cases hc : isB 59 src[i]
    ·rw [if_neg (by simp), hit _ i hl hb hc]
    ·have h1 := com_pos hl hc;rw [if_pos rfl, com _ i hl hb hc, rE mk src F step com hit fin m M _ h1.2 (by omega) (by omega)]
   ·rw [if_pos rfl, step _ i hl hb, rE mk src F step com hit fin m M (i + 1) (by omega) (by omega) (by omega)]
  ·have : i = src.length := by omega
   subst this;rw [dif_neg hl, fin]
theorem fP {n : Int} {b : UInt8} (h : isB n b = true) : (b.toNat : Int) = n := by unfold isB at h; simpa using h
theorem dV {n : Int} {b : UInt8} (h : isB n b = false) : ¬ (b.toNat : Int) = n := by unfold isB at h; simpa using h
theorem kS (src : List UInt8) (hl : src.length ≤ 1000000) (p : Nat) (hp : p ≤ src.length) (k : Int) : P9 (PRdI.mk src (p : Int) k) = some (PRdI.mk src (sk src p : Nat) k) := by
 unfold P9 sk;rw [LF_eq];refine rE (L := cF) (fun i => PRdI.mk src (i : Int) k) src (fun e => some (PRdI.mk src (e : Int) k)) (fun go i hi hb => ?_) (fun go i hi hb hc => ?_) (fun go i hi hb hc => ?_) (fun go => ?_) _ _ p hp (by omega) (by omega)
 ·show v6 go (PRdI.mk src (i : Int) k) = _;unfold v6;dsimp only;rw [if_pos (by omega), o9 hi, f7];unfold B4;dsimp only;have hx : I64 ((i : Int) + 1) := by show _ ∧ _; omega
  unfold blank at hb;cases h1 : isB 32 src[i]
  ·rw [if_neg (dV h1)];cases h2 : isB 10 src[i]
   ·rw [if_neg (dV h2)];rw [h1, h2, Bool.false_or, Bool.false_or] at hb;rw [if_pos (show decide (((src[i]).toNat : Int) = 9) = true from hb), j5 hx]; rfl
   ·rw [if_pos (fP h2), if_pos rfl, j5 hx]; rfl
  ·rw [if_pos (fP h1), if_pos rfl, j5 hx]; rfl
 ·show v6 go (PRdI.mk src (i : Int) k) = _;unfold v6;dsimp only;unfold blank at hb;rw [Bool.or_eq_false_iff, Bool.or_eq_false_iff] at hb;rw [if_pos (by omega), o9 hi, f7, if_neg (dV hb.1), if_neg (dV hb.2.1)];unfold B4;rw [if_neg (show ¬ decide (((src[i]).toNat : Int) = 9) = true from fun h => by rw [show decide (((src[i]).toNat : Int) = 9) = isB 9 src[i] from rfl, hb.2.2] at h; cases h), if_pos (fP hc)];refine scanLF (L := cG go) (fun j => PRdI.mk src (j : Int) k) src (isB 10) (fun e => go (PRdI.mk src (e : Int) k)) (by omega) (fun go7 j hj hq => ?_) (fun go7 j hj hq => ?_) (fun go7 => ?_) i (by omega)
  ·show A1 go go7 (PRdI.mk src (j : Int) k) = _;unfold A1 C9;dsimp only;rw [if_pos (by omega), o9 hj, f7, if_pos (show (!decide (((src[j]).toNat : Int) = 10)) = true by rw [show decide (((src[j]).toNat : Int) = 10) = isB 10 src[j] from rfl, hq]; rfl), j5 (by show _ ∧ _; omega)]; rfl
  ·show A1 go go7 (PRdI.mk src (j : Int) k) = _;unfold A1 C9;dsimp only;rw [if_pos (by omega), o9 hj, f7, if_neg (show ¬ (!decide (((src[j]).toNat : Int) = 10)) = true by rw [show decide (((src[j]).toNat : Int) = 10) = isB 10 src[j] from rfl, hq]; simp)]
  ·show A1 go go7 (PRdI.mk src (src.length : Int) k) = _;unfold A1 C9;dsimp only;rw [if_neg (by omega), if_neg (by simp)]
 ·show v6 go (PRdI.mk src (i : Int) k) = _;unfold v6;dsimp only;unfold blank at hb;rw [Bool.or_eq_false_iff, Bool.or_eq_false_iff] at hb;rw [if_pos (by omega), o9 hi, f7, if_neg (dV hb.1), if_neg (dV hb.2.1)];unfold B4;rw [if_neg (show ¬ decide (((src[i]).toNat : Int) = 9) = true from fun h => by rw [show decide (((src[i]).toNat : Int) = 9) = isB 9 src[i] from rfl, hb.2.2] at h; cases h), if_neg (dV hc)]
 ·show v6 go (PRdI.mk src (src.length : Int) k) = _;unfold v6;dsimp only;rw [if_neg (by omega)]
theorem bR (b : UInt8) : hZ (b.toNat : Int) = some (blank b) := by
 unfold hZ blank;cases h1 : isB 32 b
 ·rw [if_neg (dV h1)];cases h2 : isB 10 b
  ·rw [if_neg (dV h2)]; rfl
  ·rw [if_pos (fP h2)]; rfl
 ·rw [if_pos (fP h1)]; rfl
theorem iC (src : List UInt8) (hl : src.length ≤ 1000000) (p : Nat) (hp : p ≤ src.length) (b : Bool) : V5 (PRdS.mk src (p : Int) b) = some (PRdS.mk src (sk src p : Nat) b) := by
 unfold V5 sk;rw [LF_eq];refine rE (L := oT) (fun i => PRdS.mk src (i : Int) b) src (fun e => some (PRdS.mk src (e : Int) b)) (fun go i hi hb => ?_) (fun go i hi hb hc => ?_) (fun go i hi hb hc => ?_) (fun go => ?_) _ _ p hp (by omega) (by omega)
 ·show C4 go (PRdS.mk src (i : Int) b) = _;unfold C4;dsimp only;rw [if_pos (by omega), o9 hi, f7, bR, f7, if_pos hb];unfold J2;dsimp only;have h9 : isB 59 src[i] = false := by
   cases h : isB 59 src[i]
   ·rfl
   ·have h1 := fP h;unfold blank at hb;rw [Bool.or_eq_true, Bool.or_eq_true] at hb;rcases hb with hb | hb | hb <;> have h2 := fP hb <;> omega
  rw [if_pos rfl, o9 hi, f7, if_neg (dV h9), j5 (by show _ ∧ _; omega)]; rfl
 ·show C4 go (PRdS.mk src (i : Int) b) = _;unfold C4;dsimp only;rw [if_pos (by omega), o9 hi, f7, bR, f7, if_neg (by rw [hb]; simp), f7];unfold J2;dsimp only;rw [if_pos (show decide (((src[i]).toNat : Int) = 59) = true from hc), o9 hi, f7, if_pos (fP hc)];refine scanLF (L := oU go) (fun j => PRdS.mk src (j : Int) b) src (isB 10) (fun e => go (PRdS.mk src (e : Int) b)) (by omega) (fun go7 j hj hq => ?_) (fun go7 j hj hq => ?_) (fun go7 => ?_) i (by omega)
  ·show L3 go go7 (PRdS.mk src (j : Int) b) = _;unfold L3 U2;dsimp only;rw [if_pos (by omega), o9 hj, f7, if_pos (show (!decide (((src[j]).toNat : Int) = 10)) = true by rw [show decide (((src[j]).toNat : Int) = 10) = isB 10 src[j] from rfl, hq]; rfl), j5 (by show _ ∧ _; omega)]; rfl
  ·show L3 go go7 (PRdS.mk src (j : Int) b) = _;unfold L3 U2;dsimp only;rw [if_pos (by omega), o9 hj, f7, if_neg (show ¬ (!decide (((src[j]).toNat : Int) = 10)) = true by rw [show decide (((src[j]).toNat : Int) = 10) = isB 10 src[j] from rfl, hq]; simp)]
  ·show L3 go go7 (PRdS.mk src (src.length : Int) b) = _;unfold L3 U2;dsimp only;rw [if_neg (by omega), if_neg (by simp)]
 ·show C4 go (PRdS.mk src (i : Int) b) = _;unfold C4;dsimp only;rw [if_pos (by omega), o9 hi, f7, bR, f7, if_neg (by rw [hb]; simp), f7];unfold J2;rw [if_neg (show ¬ decide (((src[i]).toNat : Int) = 59) = true from fun h => by rw [show decide (((src[i]).toNat : Int) = 59) = isB 59 src[i] from rfl, hc] at h; cases h)]
 ·show C4 go (PRdS.mk src (src.length : Int) b) = _;unfold C4;dsimp only;rw [if_neg (by omega)];unfold J2;rw [if_neg (by simp)]
theorem aa3 (src : List UInt8) (hl : src.length ≤ 1000000) (pos : Int) (h0 : 0 ≤ pos) (b : Bool) : ∃ pos', V5 (PRdS.mk src pos b) = some (PRdS.mk src pos' b) ∧ 0 ≤ pos' ∧ (pos' ≤ pos ∨ pos' ≤ (src.length : Int)) := by
 by_cases h : pos ≤ (src.length : Int)
 ·obtain ⟨p, rfl⟩ := Int.eq_ofNat_of_zero_le h0;have hp : p ≤ src.length := by omega
  have h2 := sk_le hp;exact ⟨_, iC src hl p hp b, by omega, .inr (by omega)⟩
 ·refine ⟨pos, ?_, h0, .inl (Int.le_refl _)⟩;unfold V5;rw [LF_eq];show C4 _ (PRdS.mk src pos b) = _;unfold C4;dsimp only;rw [if_neg (by omega)];unfold J2;rw [if_neg (by simp)]
def ends (b : UInt8) : Bool := blank b || (isB 40 b || (isB 41 b || (isB 34 b || (isB 59 b || isB 39 b))))
theorem sX (b : UInt8) : kP (b.toNat : Int) = some (ends b) := by
 unfold kP ends blank;cases h1 : isB 32 b
 ·rw [if_neg (dV h1)];cases h2 : isB 10 b
  ·rw [if_neg (dV h2)];cases h3 : isB 9 b
   ·rw [if_neg (dV h3)];cases h4 : isB 40 b
    ·rw [if_neg (dV h4)];cases h5 : isB 41 b
     ·rw [if_neg (dV h5)];cases h6 : isB 34 b
      ·rw [if_neg (dV h6)];cases h7 : isB 59 b
       ·rw [if_neg (dV h7)];cases h8 : isB 39 b
        ·rw [if_neg (dV h8)]; rfl
        ·rw [if_pos (fP h8)]; rfl
       ·rw [if_pos (fP h7)]; rfl
      ·rw [if_pos (fP h6)]; rfl
     ·rw [if_pos (fP h5)]; rfl
    ·rw [if_pos (fP h4)]; rfl
   ·rw [if_pos (fP h3)]; rfl
  ·rw [if_pos (fP h2)]; rfl
 ·rw [if_pos (fP h1)]; rfl
theorem xN (b : UInt8) : qT (b.toNat : Int) = some (isB 40 b || (isB 41 b || (isB 34 b || (isB 59 b || isB 39 b)))) := by
 unfold qT;cases h4 : isB 40 b
 ·rw [if_neg (dV h4)];cases h5 : isB 41 b
  ·rw [if_neg (dV h5)];cases h6 : isB 34 b
   ·rw [if_neg (dV h6)];cases h7 : isB 59 b
    ·rw [if_neg (dV h7)]; rfl
    ·rw [if_pos (fP h7)]; rfl
   ·rw [if_pos (fP h6)]; rfl
  ·rw [if_pos (fP h5)]; rfl
 ·rw [if_pos (fP h4)]; rfl
def atomD (w : List UInt8) : Option PD :=
 if (numS w).2 = true then some (PD.mk 2 (numS w).1 [] []) else if w = [35, 116] then some (PD.mk 3 1 [] []) else if w = [35, 102] then some (PD.mk 3 0 [] []) else if isSymbol w = true then some (PD.mk 1 0 w []) else none
def zD : PD := PD.mk 0 0 ([] : List UInt8) []
def atI (o : Option PD) : PD × Bool := match o with
 | some d => (d, true)
 | none => (zD, false)
theorem i_atomOf_eq (w : List UInt8) (h : SM w) : mQ w = some (atI (atomD w)) := by
 unfold mQ atomD;rw [cB w h, f7];by_cases h1 : (numS w).2 = true
 ·rw [if_pos h1, if_pos h1]; rfl
 ·rw [if_neg h1, if_neg h1];by_cases h2 : w = [35, 116]
  ·rw [if_pos h2, if_pos h2]; rfl
  ·rw [if_neg h2, if_neg h2];by_cases h3 : w = [35, 102]
   ·rw [if_pos h3, if_pos h3]; rfl
   ·rw [if_neg h3, if_neg h3, iU w h, f7];by_cases h4 : isSymbol w = true
    ·rw [if_pos h4, if_pos h4]; rfl
    ·rw [if_neg h4, if_neg h4]; rfl
def word (src : List UInt8) (p e : Nat) : List UInt8 := (src.take e).drop p
theorem nJ (src : List UInt8) (p e : Nat) : (word src p e).length ≤ e - p := by unfold word; simp; omega
theorem atomD_nil : atomD [] = none := by
 unfold atomD;rfl
theorem atomD_w {w : List UInt8} {d : PD} (h : atomD w = some d) : wD d ≤ w.length ∧ d.cnt = 0 := by
 unfold atomD at h;split at h
 ·cases h; exact ⟨by show 0 ≤ _; omega, rfl⟩
 ·split at h
  ·cases h; exact ⟨by show 0 ≤ _; omega, rfl⟩
  ·split at h
   ·cases h; exact ⟨by show 0 ≤ _; omega, rfl⟩
   ·split at h
    ·cases h; exact ⟨by show w.length + 0 ≤ _; omega, rfl⟩
    ·cases h
def endW (src : List UInt8) (p : Nat) : Nat := p + fnd ends (src.drop p)
theorem endW_le {src : List UInt8} {p : Nat} (h : p ≤ src.length) : p ≤ endW src p ∧ endW src p ≤ src.length := by
 have := fnd_le ends (src.drop p);rw [List.length_drop] at this;unfold endW; omega
theorem s_l1Atom_eq (src : List UInt8) (hl : src.length ≤ 1000000) (p : Nat) (hp : p ≤ src.length) :
 qS (PRdS.mk src (p : Int) false) = some (match atomD (word src p (endW src p)) with | some d => (d, PRdS.mk src (endW src p : Nat) false) | none => (zD, PRdS.mk src (endW src p : Nat) true)) := by
 unfold qS;have hJ : ∀ go (e : Nat), p ≤ e → e ≤ src.length → R1 (PRdS.mk src (p : Int) false) (PRdS.mk src (e : Int) false) go false = some (match atomD (word src p e) with | some d => (d, PRdS.mk src (e : Int) false) | none => (zD, PRdS.mk src (e : Int) true)) := fun go e h1 h2 => by
  unfold R1;dsimp only;rw [Int.toNat_natCast, Int.toNat_natCast];show (if false = true then _ else chk _ (bnd (K5 (word src p e)) fun x5 => _)) = _;have hw := nJ src p e;have hS : SM (word src p e) := by unfold SM; omega
  have hr := zY (word src p e);rw [if_neg (by simp), j5 (by omega), cL _ hS, f7];unfold atomD;by_cases q1 : (numS (word src p e)).2 = true
  ·rw [if_pos q1, if_pos q1];unfold cS;have hi : inside (numS (word src p e)).1 (-999999999) 999999999 = true := by unfold inside; simp; omega
   rw [bU, f7, if_pos hi, f7]
  ·rw [if_neg q1, if_neg q1];show (if word src p e = [35, 116] then _ else if word src p e = [35, 102] then _ else _) = _;by_cases q2 : word src p e = [35, 116]
   ·rw [if_pos q2, if_pos q2];show bnd (S5 (decide (word src p e = [35, 116]))) _ = _;rw [q2]; rfl
   ·rw [if_neg q2, if_neg q2];by_cases q3 : word src p e = [35, 102]
    ·rw [if_pos q3, if_pos q3];show bnd (S5 (decide (word src p e = [35, 116]))) _ = _;rw [q3]; rfl
    ·rw [if_neg q3, if_neg q3];show bnd (S6 (word src p e)) _ = _;rw [aG _ hS, f7];by_cases q4 : isSymbol (word src p e) = true
     ·rw [if_pos q4, if_pos q4];unfold Q2;show bnd (bnd (S6 (word src p e)) _) _ = _;rw [aG _ hS, f7, if_pos q4, f7]; rfl
     ·rw [if_neg q4, if_neg q4]; rfl
 have key := scanLF (L := oP (PRdS.mk src (p : Int) false)) (fun j => PRdS.mk src ((p + j : Nat) : Int) false) (src.drop p) ends (fun e => some (match atomD (word src p (p + e)) with | some d => (d, PRdS.mk src ((p + e : Nat) : Int) false) | none => (zD, PRdS.mk src ((p + e : Nat) : Int) true))) (by rw [List.length_drop]; omega) (fun go j hj hq => ?_) (fun go j hj hq => ?_) (fun go => ?_) 0 (Nat.zero_le _)
 ·simpa [endW] using key
 ·rw [List.length_drop] at hj;have hpj : p + j < src.length := by omega
  rw [List.getElem_drop] at hq;unfold ends at hq;rw [Bool.or_eq_false_iff] at hq;show K7 (PRdS.mk src (p : Int) false) go (PRdS.mk src ((p + j : Nat) : Int) false) = _;unfold K7;dsimp only;rw [if_pos (by omega), o9 hpj, f7, bR, f7, if_neg (by rw [hq.1]; simp), f7, xN, f7, hq.2];unfold R1;dsimp only;rw [if_pos (show (!false) = true from rfl), j5 (by show _ ∧ _; omega)]; rfl
 ·rw [List.length_drop] at hj;have hpj : p + j < src.length := by omega
  rw [List.getElem_drop] at hq;unfold ends at hq;show K7 (PRdS.mk src (p : Int) false) go (PRdS.mk src ((p + j : Nat) : Int) false) = _;unfold K7;dsimp only;rw [if_pos (by omega), o9 hpj, f7, bR, f7];cases hb : blank src[p + j]
  ·rw [hb, Bool.false_or] at hq;rw [if_neg (by simp), f7, xN, f7, hq];exact hJ go (p + j) (by omega) (by omega)
  ·rw [if_pos rfl];exact hJ go (p + j) (by omega) (by omega)
 ·show K7 (PRdS.mk src (p : Int) false) go (PRdS.mk src ((p + (src.drop p).length : Nat) : Int) false) = _;unfold K7;dsimp only;rw [List.length_drop, if_neg (by omega)];exact hJ go (p + (src.length - p)) (by omega) (by omega)
theorem i_atom_eq (src : List UInt8) (hl : src.length ≤ 1000000) (p : Nat) (hp : p ≤ src.length) (k0 k : Int) :
 itr (O2 (PRdI.mk src (p : Int) k0)) LF (PRdI.mk src (p : Int) k) = some ((atI (atomD (word src p (endW src p)))).1, (atI (atomD (word src p (endW src p)))).2, PRdI.mk src (endW src p : Nat) k) := by
 have hJ : ∀ go (e : Nat), p ≤ e → e ≤ src.length → B8 (PRdI.mk src (p : Int) k0) (PRdI.mk src (e : Int) k) go false = some ((atI (atomD (word src p e))).1, (atI (atomD (word src p e))).2, PRdI.mk src (e : Int) k) := fun go e h1 h2 => by
  unfold B8;dsimp only;rw [Int.toNat_natCast, Int.toNat_natCast];have hw := nJ src p e;have hS : SM (word src p e) := by unfold SM; omega
  show (if false = true then _ else chk _ (bnd (mQ (word src p e)) fun x8 => _)) = _;rw [if_neg (by simp), j5 (by omega), i_atomOf_eq _ hS, f7]
 have key := scanLF (L := O2 (PRdI.mk src (p : Int) k0)) (fun j => PRdI.mk src ((p + j : Nat) : Int) k) (src.drop p) ends (fun e => some ((atI (atomD (word src p (p + e)))).1, (atI (atomD (word src p (p + e)))).2, PRdI.mk src ((p + e : Nat) : Int) k)) (by rw [List.length_drop]; omega) (fun go j hj hq => ?_) (fun go j hj hq => ?_) (fun go => ?_) 0 (Nat.zero_le _)
 ·simpa [endW] using key
 ·rw [List.length_drop] at hj;have hpj : p + j < src.length := by omega
  rw [List.getElem_drop] at hq;show y7 (PRdI.mk src (p : Int) k0) go (PRdI.mk src ((p + j : Nat) : Int) k) = _;unfold y7;dsimp only;rw [if_pos (by omega), o9 hpj, f7, sX, f7, hq];unfold B8;dsimp only;rw [if_pos (show (!false) = true from rfl), j5 (by show _ ∧ _; omega)]; rfl
 ·rw [List.length_drop] at hj;have hpj : p + j < src.length := by omega
  rw [List.getElem_drop] at hq;show y7 (PRdI.mk src (p : Int) k0) go (PRdI.mk src ((p + j : Nat) : Int) k) = _;unfold y7;dsimp only;rw [if_pos (by omega), o9 hpj, f7, sX, f7, hq];exact hJ go (p + j) (by omega) (by omega)
 ·show y7 (PRdI.mk src (p : Int) k0) go (PRdI.mk src ((p + (src.drop p).length : Nat) : Int) k) = _;unfold y7;dsimp only;rw [List.length_drop, if_neg (by omega)];exact hJ go (p + (src.length - p)) (by omega) (by omega)
def endT (src : List UInt8) (p : Nat) : Nat := p + fnd (isB 34) (src.drop p)
theorem endT_le {src : List UInt8} {p : Nat} (h : p ≤ src.length) : p ≤ endT src p ∧ endT src p ≤ src.length := by
 have := fnd_le (isB 34) (src.drop p);rw [List.length_drop] at this;unfold endT; omega
theorem s_text_eq (src : List UInt8) (hl : src.length ≤ 1000000) (p : Nat) (hp : p + 1 ≤ src.length) :
 itr (jP (PRdS.mk src (p : Int) false)) LF (PRdS.mk src ((p + 1 : Nat) : Int) false) = some (if endT src (p + 1) < src.length then (if isText (word src (p + 1) (endT src (p + 1))) = true then (PD.mk 4 0 (word src (p + 1) (endT src (p + 1))) [], PRdS.mk src ((endT src (p + 1) + 1 : Nat) : Int) false) else (zD, PRdS.mk src (endT src (p + 1) : Nat) true)) else (zD, PRdS.mk src (endT src (p + 1) : Nat) true)) := by
 have hJ : ∀ go (e : Nat), p + 1 ≤ e → e ≤ src.length → U1 (PRdS.mk src (p : Int) false) (PRdS.mk src (e : Int) false) go false = some (if e < src.length then (if isText (word src (p + 1) e) = true then (PD.mk 4 0 (word src (p + 1) e) [], PRdS.mk src ((e + 1 : Nat) : Int) false) else (zD, PRdS.mk src (e : Int) true)) else (zD, PRdS.mk src (e : Int) true)) := fun go e h1 h2 => by
  unfold U1;dsimp only;have hw := nJ src (p + 1) e;have hS : SM (word src (p + 1) e) := by unfold SM; omega
  have e1 : ((p : Int) + 1).toNat = p + 1 := by omega
  have e2 : ((e : Int) + 1 - 1).toNat = e := by omega
  rw [if_neg (by simp), e1, e2, Int.toNat_natCast];by_cases he : e < src.length
  ·rw [if_neg (by omega), if_pos he, j5 (by omega)];show bnd (V6 (word src (p + 1) e)) _ = _;rw [jQ _ hS, f7];by_cases ht : isText (word src (p + 1) e) = true
   ·rw [if_pos ht, if_pos ht, j5 (by show _ ∧ _; omega), j5 (by show _ ∧ _; omega), j5 (by omega)];unfold cT;show bnd (bnd (V6 (word src (p + 1) e)) _) _ = _;rw [jQ _ hS, f7, if_pos ht, f7]; rfl
   ·rw [if_neg ht, if_neg ht]; rfl
  ·rw [if_pos (by omega), if_neg he]; rfl
 have key := scanLF (L := jP (PRdS.mk src (p : Int) false)) (fun j => PRdS.mk src ((p + 1 + j : Nat) : Int) false) (src.drop (p + 1)) (isB 34) (fun e => some (if p + 1 + e < src.length then (if isText (word src (p + 1) (p + 1 + e)) = true then (PD.mk 4 0 (word src (p + 1) (p + 1 + e)) [], PRdS.mk src ((p + 1 + e + 1 : Nat) : Int) false) else (zD, PRdS.mk src ((p + 1 + e : Nat) : Int) true)) else (zD, PRdS.mk src ((p + 1 + e : Nat) : Int) true))) (by rw [List.length_drop]; omega) (fun go j hj hq => ?_) (fun go j hj hq => ?_) (fun go => ?_) 0 (Nat.zero_le _)
 ·rw [Nat.zero_add, List.drop_zero] at key;exact key
 ·rw [List.length_drop] at hj;have hpj : p + 1 + j < src.length := by omega
  rw [List.getElem_drop] at hq;show K9 (PRdS.mk src (p : Int) false) go (PRdS.mk src ((p + 1 + j : Nat) : Int) false) = _;unfold K9;dsimp only;rw [if_pos (by omega), o9 hpj, f7, show decide (((src[p + 1 + j]).toNat : Int) = 34) = isB 34 src[p + 1 + j] from rfl, hq];unfold U1;dsimp only;rw [if_pos (show (!false) = true from rfl), j5 (by show _ ∧ _; omega)]; rfl
 ·rw [List.length_drop] at hj;have hpj : p + 1 + j < src.length := by omega
  rw [List.getElem_drop] at hq;show K9 (PRdS.mk src (p : Int) false) go (PRdS.mk src ((p + 1 + j : Nat) : Int) false) = _;unfold K9;dsimp only;rw [if_pos (by omega), o9 hpj, f7, show decide (((src[p + 1 + j]).toNat : Int) = 34) = isB 34 src[p + 1 + j] from rfl, hq];exact hJ go (p + 1 + j) (by omega) (by omega)
 ·show K9 (PRdS.mk src (p : Int) false) go (PRdS.mk src ((p + 1 + (src.drop (p + 1)).length : Nat) : Int) false) = _;unfold K9;dsimp only;rw [List.length_drop, if_neg (by omega)];exact hJ go (p + 1 + (src.length - (p + 1))) (by omega) (by omega)
theorem i_text_eq (src : List UInt8) (hl : src.length ≤ 1000000) (p : Nat) (hp : p + 1 ≤ src.length) (k : Int) :
 itr (O1 (PRdI.mk src (p : Int) k)) LF ((p : Int) + 1) = some (if endT src (p + 1) < src.length then (PD.mk 4 0 (word src (p + 1) (endT src (p + 1))) [], isText (word src (p + 1) (endT src (p + 1))), PRdI.mk src ((endT src (p + 1) + 1 : Nat) : Int) (k + 1)) else (zD, false, PRdI.mk src (p : Int) (k + 1))) := by
 have key := scanLF (L := O1 (PRdI.mk src (p : Int) k)) (fun j => ((p + 1 + j : Nat) : Int)) (src.drop (p + 1)) (isB 34) (fun e => some (if p + 1 + e < src.length then (PD.mk 4 0 (word src (p + 1) (p + 1 + e)) [], isText (word src (p + 1) (p + 1 + e)), PRdI.mk src ((p + 1 + e + 1 : Nat) : Int) (k + 1)) else (zD, false, PRdI.mk src (p : Int) (k + 1)))) (by rw [List.length_drop]; omega) (fun go j hj hq => ?_) (fun go j hj hq => ?_) (fun go => ?_) 0 (Nat.zero_le _)
 ·rw [Nat.zero_add, List.drop_zero] at key;exact key
 ·rw [List.length_drop] at hj;have hpj : p + 1 + j < src.length := by omega
  rw [List.getElem_drop] at hq;show y6 (PRdI.mk src (p : Int) k) go ((p + 1 + j : Nat) : Int) = _;unfold y6;dsimp only;rw [if_pos (by omega), o9 hpj, f7, if_neg (dV hq), j5 (by show _ ∧ _; omega)]; rfl
 ·rw [List.length_drop] at hj;have hpj : p + 1 + j < src.length := by omega
  rw [List.getElem_drop] at hq;show y6 (PRdI.mk src (p : Int) k) go ((p + 1 + j : Nat) : Int) = _;unfold y6;dsimp only;have e1 : ((p : Int) + 1).toNat = p + 1 := by omega
  have hw := nJ src (p + 1) (p + 1 + j);have hS : SM (word src (p + 1) (p + 1 + j)) := by unfold SM; omega
  rw [if_pos (by omega), o9 hpj, f7, if_pos (fP hq), j5 (by show _ ∧ _; omega), j5 (by omega), j5 (by omega), e1, Int.toNat_natCast];show bnd (T8 (word src (p + 1) (p + 1 + j))) _ = _;rw [kT _ hS, f7, if_pos hpj]; rfl
 ·show y6 (PRdI.mk src (p : Int) k) go ((p + 1 + (src.drop (p + 1)).length : Nat) : Int) = _;unfold y6;dsimp only;rw [List.length_drop, if_neg (by omega), if_neg (by omega)]; rfl
end Go.Abs

namespace Go.Abs
open PD
def fails (x : Option (PD × Bool × PRdI)) : Prop := ∃ d r, x = some (d, false, r)
def RdS (src : List UInt8) (p : Nat) (res : Option (PD × PRdS)) (imp : Nat → Option (PD × Bool × PRdI)) : Prop :=
 (∃ d pos, res = some (d, PRdS.mk src pos true) ∧ 0 ≤ pos ∧ pos + (p : Int) ≤ 2 * (src.length : Int) + 1 ∧ ∀ k, k ≤ 100000 → fails (imp k)) ∨
 (∃ d, ∃ q : Nat, res = some (d, PRdS.mk src (q : Int) false) ∧ p < q ∧ q ≤ src.length ∧ wD d + 1 ≤ 8 * (q - p) ∧
  ∀ k, k ≤ 100000 → if k + (d.cnt + 1) ≤ 600 then imp k = some (d, true, PRdI.mk src (q : Int) ((k + (d.cnt + 1) : Nat) : Int)) else fails (imp k))
theorem uU (d : PD) (r : List PD) : wDs (d :: r) = 1 + wD d + wDs r := by rw [wDs]
theorem oE {σ R : Type} (L : (σ → Option R) → σ → Option R) (k : Nat) (v : σ) : itr L (k + 1) v = L (itr L k) v := rfl
def roundI (src : List UInt8) (ri : PRdI → Option (PD × Bool × PRdI)) (go : PRdI × List PD → Option (PD × Bool × PRdI)) (p1 : Nat) (k : Int) (items : List PD) : Option (PD × Bool × PRdI) :=
 if (p1 : Int) ≥ (src.length : Int) then some (PD.mk 0 0 ([] : List UInt8) [], false, PRdI.mk src (p1 : Int) k) else bnd (nth src (p1 : Int)) fun x9 => if (x9.toNat : Int) = 41 then chk (I64 ((p1 : Int) + 1)) <| some (PD.mk 0 0 ([] : List UInt8) items, true, PRdI.mk src ((p1 : Int) + 1) k) else bnd (ri (PRdI.mk src (p1 : Int) k)) fun x10 => if x10.2.1 = true then chk ((items.length + ([x10.1] : List PD).length) * 56 ≤ 140737488355328) <| go (x10.2.2, items ++ [x10.1]) else some (PD.mk 0 0 ([] : List UInt8) [], false, x10.2.2)
theorem roundI_eq (src : List UInt8) (hl : src.length ≤ 15000) (ri : PRdI → Option (PD × Bool × PRdI)) (go : PRdI × List PD → Option (PD × Bool × PRdI)) (p : Nat) (hp : p ≤ src.length) (k : Int) (items : List PD) : K1 ri go (PRdI.mk src (p : Int) k) items = roundI src ri go (sk src p) k items := by
 unfold K1 roundI;rw [kS src (by omega) p hp k, f7]
theorem roundS_eq (src : List UInt8) (rs : PRdS → Option (PD × PRdS)) (go : PRdS × List PD → Option (PD × PRdS)) (p1 : Nat) (items : List PD) : P3 rs go (PRdS.mk src (p1 : Int) false) items = if (p1 : Int) < (src.length : Int) then bnd (nth src (p1 : Int)) fun x10 => F4 rs (PRdS.mk src (p1 : Int) false) items go (!decide ((x10.toNat : Int) = 41)) else F4 rs (PRdS.mk src (p1 : Int) false) items go false := by
 unfold P3;dsimp only;rw [if_neg (by simp)]
theorem list_all (src : List UInt8) (hl : src.length ≤ 15000) (rs : PRdS → Option (PD × PRdS)) (ri : PRdI → Option (PD × Bool × PRdI)) (p0 : Nat)
 (ih : ∀ p, p0 ≤ p → p ≤ src.length → RdS src p (rs (PRdS.mk src (p : Int) false)) (fun k => ri (PRdI.mk src (p : Int) (k : Int)))) :
 ∀ (t M1 M2 p : Nat) (items : List PD), src.length - p < t → t + 1 ≤ M1 → t + 1 ≤ M2 → p0 ≤ p → p ≤ src.length → items.length ≤ p →
 (∃ d pos, itr (M6 rs) M1 (PRdS.mk src (sk src p : Nat) false, items) = some (d, PRdS.mk src pos true) ∧ 0 ≤ pos ∧ pos + (p : Int) ≤ 2 * (src.length : Int) + 2 ∧ ∀ k, k + cnts items ≤ 600 → fails (itr (r8 ri) M2 (PRdI.mk src (p : Int) ((k + cnts items : Nat) : Int), items))) ∨
 (∃ ds, ∃ q : Nat, itr (M6 rs) M1 (PRdS.mk src (sk src p : Nat) false, items) = some (PD.mk 0 0 [] (items ++ ds), PRdS.mk src (q : Int) false) ∧ p < q ∧ q ≤ src.length ∧ wDs ds + 1 ≤ 8 * (q - p) ∧
  ∀ k, k + cnts items ≤ 600 → if k + cnts (items ++ ds) ≤ 600 then itr (r8 ri) M2 (PRdI.mk src (p : Int) ((k + cnts items : Nat) : Int), items) = some (PD.mk 0 0 [] (items ++ ds), true, PRdI.mk src (q : Int) ((k + cnts (items ++ ds) : Nat) : Int)) else fails (itr (r8 ri) M2 (PRdI.mk src (p : Int) ((k + cnts items : Nat) : Int), items))) := by
 intro t;induction t with
 | zero => intro _ _ p _ h; omega
 | succ t iht =>
  intro M1 M2 p items ht hM1 hM2 hp0 hp hit;obtain ⟨M1, rfl⟩ : ∃ m, M1 = m + 1 := ⟨M1 - 1, by omega⟩
  obtain ⟨M2, rfl⟩ : ∃ m, M2 = m + 1 := ⟨M2 - 1, by omega⟩
  have hk := sk_le hp;have hI : ∀ k : Int, itr (r8 ri) (M2 + 1) (PRdI.mk src (p : Int) k, items) = roundI src ri (itr (r8 ri) M2) (sk src p) k items := fun k => roundI_eq src hl ri _ p hp k items;have hS0 : M6 rs (itr (M6 rs) M1) (PRdS.mk src (sk src p : Nat) false, items) = P3 rs (itr (M6 rs) M1) (PRdS.mk src (sk src p : Nat) false) items := rfl;have hS := (oE (M6 rs) M1 (PRdS.mk src (sk src p : Nat) false, items)).trans (hS0.trans (roundS_eq src rs (itr (M6 rs) M1) (sk src p) items));rw [hS];generalize sk src p = p1 at hk hI;by_cases h1 : p1 < src.length
  ·rw [if_pos (by omega), o9 h1, f7];by_cases h41 : ((src[p1]).toNat : Int) = 41
   ·rw [decide_eq_true h41];unfold F4;dsimp only;rw [Bool.not_true, if_neg (by simp), if_neg (by simp), j5 (by show _ ∧ _; omega), decide_eq_false (show ¬ (p1 : Int) ≥ (src.length : Int) by omega)];refine .inr ⟨[], p1 + 1, by rw [List.append_nil]; rfl, by omega, by omega, by show 0 + 1 ≤ _; omega, fun k hk2 => ?_⟩;rw [List.append_nil, if_pos hk2, hI];unfold roundI;rw [if_neg (by omega), o9 h1, f7, if_pos h41, j5 (by show _ ∧ _; omega)]; rfl
   ·rw [decide_eq_false h41];unfold F4;rw [Bool.not_false, if_pos rfl];have hI2 : ∀ k : Int, itr (r8 ri) (M2 + 1) (PRdI.mk src (p : Int) k, items) = bnd (ri (PRdI.mk src (p1 : Int) k)) fun x10 => if x10.2.1 = true then chk ((items.length + ([x10.1] : List PD).length) * 56 ≤ 140737488355328) <| itr (r8 ri) M2 (x10.2.2, items ++ [x10.1]) else some (PD.mk 0 0 ([] : List UInt8) [], false, x10.2.2) := fun k => by
     rw [hI];unfold roundI;rw [if_neg (by omega), o9 h1, f7, if_neg h41]
    rcases ih p1 (by omega) (by omega) with ⟨d, pos, e1, e2, e3, e4⟩ | ⟨d, q, e1, e2, e3, e4, e5⟩
    ·obtain ⟨pos', f1, f2, f3⟩ := aa3 src (by omega) pos e2 true;rw [e1, f7, j5 (by simp only [List.length_cons, List.length_nil]; omega), f1, f7];cases M1 with
     | zero => omega
     | succ M1 =>
      refine .inl ⟨PD.mk 0 0 [] (items ++ [d]), pos' + 1, ?_, by omega, by omega, fun k hk2 => ?_⟩
      ·rw [oE];show P3 rs (itr (M6 rs) M1) (PRdS.mk src pos' true) (items ++ [d]) = _;unfold P3;dsimp only;rw [if_pos rfl];unfold F4;dsimp only;rw [if_neg (by simp), if_pos rfl, j5 (by show _ ∧ _; omega)]
      ·obtain ⟨d2, r2, g⟩ := e4 (k + cnts items) (by omega);have g' : ri (PRdI.mk src (p1 : Int) ((k + cnts items : Nat) : Int)) = some (d2, false, r2) := g;rw [hI2, g', f7, if_neg (by simp)];exact ⟨_, _, rfl⟩
    ·have hc : ∀ k, k + cnts items + (d.cnt + 1) = k + cnts (items ++ [d]) := fun k => by rw [iM, mG]; omega
     rw [e1, f7, j5 (by simp only [List.length_cons, List.length_nil]; omega), iC src (by omega) q e3 false, f7];have hrec := iht M1 M2 q (items ++ [d]) (by omega) (by omega) (by omega) (by omega) e3 (by simp only [List.length_append, List.length_cons, List.length_nil]; omega);have hfail : ∀ k, k + cnts items ≤ 600 → ¬ k + cnts (items ++ [d]) ≤ 600 → fails (itr (r8 ri) (M2 + 1) (PRdI.mk src (p : Int) ((k + cnts items : Nat) : Int), items)) := fun k h2 h3 => by
      have g := e5 (k + cnts items) (by omega);rw [if_neg (by rw [hc]; exact h3)] at g;obtain ⟨d2, r2, g⟩ := g;have g' : ri (PRdI.mk src (p1 : Int) ((k + cnts items : Nat) : Int)) = some (d2, false, r2) := g;rw [hI2, g', f7, if_neg (by simp)];exact ⟨_, _, rfl⟩
     have hgo : ∀ k, k + cnts items ≤ 600 → k + cnts (items ++ [d]) ≤ 600 → itr (r8 ri) (M2 + 1) (PRdI.mk src (p : Int) ((k + cnts items : Nat) : Int), items) = itr (r8 ri) M2 (PRdI.mk src (q : Int) ((k + cnts (items ++ [d]) : Nat) : Int), items ++ [d]) := fun k h2 h3 => by
      have g := e5 (k + cnts items) (by omega);rw [if_pos (by rw [hc]; exact h3), hc] at g;have g' : ri (PRdI.mk src (p1 : Int) ((k + cnts items : Nat) : Int)) = some (d, true, PRdI.mk src (q : Int) ((k + cnts (items ++ [d]) : Nat) : Int)) := g;rw [hI2, g', f7, if_pos rfl, j5 (by simp only [List.length_cons, List.length_nil]; omega)]
     rcases hrec with ⟨d3, pos, g1, g2, g3, g4⟩ | ⟨ds, q2, g1, g2, g3, g4, g5⟩
     ·refine .inl ⟨d3, pos, g1, g2, by omega, fun k hk2 => ?_⟩;by_cases h3 : k + cnts (items ++ [d]) ≤ 600
      ·rw [hgo k hk2 h3]; exact g4 k h3
      ·exact hfail k hk2 h3
     ·have ha : items ++ [d] ++ ds = items ++ (d :: ds) := by rw [List.append_assoc]; rfl
      rw [ha] at g1 g5;refine .inr ⟨d :: ds, q2, g1, by omega, g3, by rw [uU]; omega, fun k hk2 => ?_⟩;have hle : cnts (items ++ [d]) ≤ cnts (items ++ (d :: ds)) := by rw [← ha, iM (items ++ [d])]; omega
      by_cases h3 : k + cnts (items ++ [d]) ≤ 600
      ·rw [hgo k hk2 h3]; exact g5 k h3
      ·rw [if_neg (by omega)]; exact hfail k hk2 h3
  ·rw [if_neg (by omega)];unfold F4;dsimp only;rw [if_neg (by simp), if_neg (by simp), j5 (by show _ ∧ _; omega), decide_eq_true (show (p1 : Int) ≥ (src.length : Int) by omega)];refine .inl ⟨_, _, rfl, by omega, by omega, fun k hk2 => ?_⟩;rw [hI];unfold roundI;rw [if_pos (by omega)];exact ⟨_, _, rfl⟩
theorem quote_ok : Q2 ([113, 117, 111, 116, 101] : List UInt8) = some (PD.mk 1 0 [113, 117, 111, 116, 101] []) := by
 unfold Q2;rw [aG _ (by unfold SM; decide), f7, if_pos (by decide)]
theorem rd_all (src : List UInt8) (hl : src.length ≤ 15000) : ∀ (L n1 n2 p : Nat), src.length - p < L → L ≤ n1 → L ≤ n2 → p ≤ src.length →
 RdS src p (z7 n1 (PRdS.mk src (p : Int) false)) (fun k => k9 n2 (PRdI.mk src (p : Int) (k : Int)))
 | 0, _, _, _, h, _, _, _ => by omega
 | L + 1, 0, _, _, _, h, _, _ => by omega
 | L + 1, _ + 1, 0, _, _, _, h, _ => by omega
 | L + 1, n1 + 1, n2 + 1, p, hL, hn1, hn2, hp => by
  have hk := sk_le hp;show RdS src p (iA (z7 n1) (PRdS.mk src (p : Int) false)) (fun k => l9 (k9 n2) (PRdI.mk src (p : Int) (k : Int)));unfold iA;rw [iC src (by omega) p hp false, f7];dsimp only;rw [if_neg (by simp)];generalize hsk : sk src p = p1 at hk;have hI : ∀ k : Nat, k ≤ 100000 → l9 (k9 n2) (PRdI.mk src (p : Int) (k : Int)) = l9 (k9 n2) (PRdI.mk src (p : Int) (k : Int)) := fun _ _ => rfl;by_cases h1 : p1 < src.length
  ·rw [if_neg (by omega), o9 h1, f7, f7];have hbig : ∀ k : Nat, k ≤ 100000 → ¬ k + 1 ≤ 600 → fails (l9 (k9 n2) (PRdI.mk src (p : Int) (k : Int))) := fun k h2 h3 => by
    unfold l9;rw [kS src (by omega) p hp, f7, hsk];dsimp only;rw [j5 (by show _ ∧ _; omega), if_neg (by omega), if_pos (by omega)];exact ⟨_, _, rfl⟩
   have hgo : ∀ k : Nat, k + 1 ≤ 600 → l9 (k9 n2) (PRdI.mk src (p : Int) (k : Int)) = if ((src[p1]).toNat : Int) = 40 then
    chk (I64 ((p1 : Int) + 1)) <| itr (r8 (k9 n2)) LF (PRdI.mk src ((p1 : Int) + 1) ((k : Int) + 1), [])
    else if ((src[p1]).toNat : Int) = 41 then some (zD, false, PRdI.mk src (p1 : Int) ((k : Int) + 1))
    else if ((src[p1]).toNat : Int) = 39 then
     chk (I64 ((p1 : Int) + 1)) <| chk (I64 ((k : Int) + 1 + 1)) <| bnd (k9 n2 (PRdI.mk src ((p1 : Int) + 1) ((k : Int) + 1 + 1))) fun x5 =>
     if x5.2.1 = true then some (PD.mk 0 0 [] [PD.mk 1 0 [113, 117, 111, 116, 101] [], x5.1], true, x5.2.2) else some (zD, false, x5.2.2)
    else if ((src[p1]).toNat : Int) = 34 then
     chk (I64 ((p1 : Int) + 1)) <| itr (O1 (PRdI.mk src (p1 : Int) (k : Int))) LF ((p1 : Int) + 1)
    else itr (O2 (PRdI.mk src (p1 : Int) (k : Int))) LF (PRdI.mk src (p1 : Int) ((k : Int) + 1)) := fun k h3 => by
    unfold l9;rw [kS src (by omega) p hp, f7, hsk];dsimp only;rw [j5 (by show _ ∧ _; omega), if_neg (by omega), if_neg (by omega), o9 h1, f7]; rfl
   have hP : ((p1 : Int) + 1) = ((p1 + 1 : Nat) : Int) := by omega
   by_cases h41 : ((src[p1]).toNat : Int) = 41
   ·rw [if_pos h41];refine .inl ⟨_, _, rfl, by omega, by omega, fun k hk2 => ?_⟩;by_cases h3 : k + 1 ≤ 600
    ·show fails (l9 _ _);rw [hgo k h3, if_neg (by omega), if_pos h41];exact ⟨_, _, rfl⟩
    ·exact hbig k hk2 h3
   rw [if_neg h41];by_cases h39 : ((src[p1]).toNat : Int) = 39
   ·rw [if_pos h39, j5 (by show _ ∧ _; omega), quote_ok, f7, hP];rcases rd_all src hl L n1 n2 (p1 + 1) (by omega) (by omega) (by omega) (by omega) with ⟨d, pos, e1, e2, e3, e4⟩ | ⟨d, q, e1, e2, e3, e4, e5⟩
    ·rw [e1, f7];refine .inl ⟨_, _, rfl, e2, by omega, fun k hk2 => ?_⟩;by_cases h3 : k + 1 ≤ 600
     ·obtain ⟨d2, r2, g⟩ := e4 (k + 2) (by omega);have g' : k9 n2 (PRdI.mk src ((p1 + 1 : Nat) : Int) ((k : Int) + 1 + 1)) = some (d2, false, r2) := by
       have e : ((k : Int) + 1 + 1) = ((k + 2 : Nat) : Int) := by omega
       rw [e]; exact g
      show fails (l9 _ _);rw [hgo k h3, if_neg (by omega), if_neg h41, if_pos h39, j5 (by show _ ∧ _; omega), j5 (by show _ ∧ _; omega), hP, g', f7, if_neg (by simp)];exact ⟨_, _, rfl⟩
     ·exact hbig k hk2 h3
    ·rw [e1, f7];have hcn : (PD.mk 0 0 [] [PD.mk 1 0 [113, 117, 111, 116, 101] [], d]).cnt = d.cnt + 2 := by
      rw [cnt_eq];show cnts [_, d] = _;rw [pB, mG];show 1 + 0 + (d.cnt + 1) = _;omega
     have hww : wD (PD.mk 0 0 [] [PD.mk 1 0 [113, 117, 111, 116, 101] [], d]) = 7 + wD d := by
      rw [rI];show 0 + wDs [_, d] = _;rw [uU, uU];show 0 + (1 + 5 + (1 + wD d + 0)) = _;omega
     refine .inr ⟨_, q, rfl, by omega, e3, by rw [hww]; omega, fun k hk2 => ?_⟩;rw [hcn];by_cases h3 : k + 1 ≤ 600
     ·have g := e5 (k + 2) (by omega);have e : ((k : Int) + 1 + 1) = ((k + 2 : Nat) : Int) := by omega
      have hrun : l9 (k9 n2) (PRdI.mk src (p : Int) (k : Int)) = bnd (k9 n2 (PRdI.mk src ((p1 + 1 : Nat) : Int) ((k + 2 : Nat) : Int))) fun x5 => if x5.2.1 = true then some (PD.mk 0 0 [] [PD.mk 1 0 [113, 117, 111, 116, 101] [], x5.1], true, x5.2.2) else some (zD, false, x5.2.2) := by
       rw [hgo k h3, if_neg (show ¬ ((src[p1]).toNat : Int) = 40 by omega), if_neg h41, if_pos h39, j5 (by show _ ∧ _; omega), j5 (by show _ ∧ _; omega), hP, e]
      show if _ then l9 _ _ = _ else fails (l9 _ _)
      rw [hrun];by_cases h6 : k + 2 + (d.cnt + 1) ≤ 600
      ·rw [if_pos h6] at g;have g' : k9 n2 (PRdI.mk src ((p1 + 1 : Nat) : Int) ((k + 2 : Nat) : Int)) = some (d, true, PRdI.mk src (q : Int) ((k + 2 + (d.cnt + 1) : Nat) : Int)) := g;rw [if_pos (show k + (d.cnt + 2 + 1) ≤ 600 by omega), g', f7, if_pos rfl, show k + 2 + (d.cnt + 1) = k + (d.cnt + 2 + 1) by omega]
      ·rw [if_neg h6] at g;obtain ⟨d2, r2, g⟩ := g;have g' : k9 n2 (PRdI.mk src ((p1 + 1 : Nat) : Int) ((k + 2 : Nat) : Int)) = some (d2, false, r2) := g;rw [if_neg (show ¬ k + (d.cnt + 2 + 1) ≤ 600 by omega), g', f7, if_neg (by simp)];exact ⟨_, _, rfl⟩
     ·rw [if_neg (by omega)]; exact hbig k hk2 h3
   rw [if_neg h39];by_cases h34 : ((src[p1]).toNat : Int) = 34
   ·have hte := endT_le (src := src) (p := p1 + 1) (by omega);have hwl := nJ src (p1 + 1) (endT src (p1 + 1));rw [if_pos h34, j5 (by show _ ∧ _; omega), hP, s_text_eq src (by omega) p1 (by omega)];have hgo2 : ∀ k : Nat, k + 1 ≤ 600 → l9 (k9 n2) (PRdI.mk src (p : Int) (k : Int)) = some (if endT src (p1 + 1) < src.length then (PD.mk 4 0 (word src (p1 + 1) (endT src (p1 + 1))) [], isText (word src (p1 + 1) (endT src (p1 + 1))), PRdI.mk src ((endT src (p1 + 1) + 1 : Nat) : Int) ((k : Int) + 1)) else (zD, false, PRdI.mk src (p1 : Int) ((k : Int) + 1))) := fun k h3 => by
     rw [hgo k h3, if_neg (by omega), if_neg h41, if_neg h39, if_pos h34, j5 (by show _ ∧ _; omega), i_text_eq src (by omega) p1 (by omega)]
    by_cases he : endT src (p1 + 1) < src.length
    ·rw [if_pos he];by_cases htx : isText (word src (p1 + 1) (endT src (p1 + 1))) = true
     ·rw [if_pos htx];refine .inr ⟨_, endT src (p1 + 1) + 1, rfl, by omega, by omega, ?_, fun k hk2 => ?_⟩
      ·rw [rI];show (word src (p1 + 1) (endT src (p1 + 1))).length + 0 + 1 ≤ _;omega
      ·show if k + (0 + 1) ≤ 600 then l9 _ _ = _ else fails (l9 _ _)
       by_cases h3 : k + 1 ≤ 600
       ·rw [if_pos (by omega), hgo2 k h3, if_pos he, htx]; rfl
       ·rw [if_neg (by omega)]; exact hbig k hk2 h3
     ·rw [if_neg htx];refine .inl ⟨_, _, rfl, by omega, by omega, fun k hk2 => ?_⟩;by_cases h3 : k + 1 ≤ 600
      ·show fails (l9 _ _);have : isText (word src (p1 + 1) (endT src (p1 + 1))) = false := by simpa using htx
       rw [hgo2 k h3, if_pos he, this];exact ⟨_, _, rfl⟩
      ·exact hbig k hk2 h3
    ·rw [if_neg he];refine .inl ⟨_, _, rfl, by omega, by omega, fun k hk2 => ?_⟩;by_cases h3 : k + 1 ≤ 600
     ·show fails (l9 _ _);rw [hgo2 k h3, if_neg he];exact ⟨_, _, rfl⟩
     ·exact hbig k hk2 h3
   rw [if_neg h34];by_cases h40 : ((src[p1]).toNat : Int) = 40
   ·rw [if_pos h40, j5 (by show _ ∧ _; omega), hP, iC src (by omega) (p1 + 1) (by omega) false, f7];have hlist := list_all src hl (z7 n1) (k9 n2) (p1 + 1) (fun p' h2 h3 => rd_all src hl L n1 n2 p' (by omega) (by omega) (by omega) h3) (src.length + 1) LF LF (p1 + 1) [] (by omega) (by rw [LF_eq]; omega) (by rw [LF_eq]; omega) (Nat.le_refl _) (by omega) (by simp);have hgo2 : ∀ k : Nat, k + 1 ≤ 600 → l9 (k9 n2) (PRdI.mk src (p : Int) (k : Int)) = itr (r8 (k9 n2)) LF (PRdI.mk src ((p1 + 1 : Nat) : Int) (((k + 1) + cnts ([] : List PD) : Nat) : Int), []) := fun k h3 => by
     rw [hgo k h3, if_pos h40, j5 (by show _ ∧ _; omega), hP]; rfl
    rcases hlist with ⟨d, pos, e1, e2, e3, e4⟩ | ⟨ds, q, e1, e2, e3, e4, e5⟩
    ·rw [e1];refine .inl ⟨_, _, rfl, e2, by omega, fun k hk2 => ?_⟩;by_cases h3 : k + 1 ≤ 600
     ·show fails (l9 _ _);rw [hgo2 k h3];exact e4 (k + 1) (by show k + 1 + 0 ≤ _; omega)
     ·exact hbig k hk2 h3
    ·rw [e1, List.nil_append];refine .inr ⟨_, q, rfl, by omega, e3, by rw [rI]; show 0 + wDs ds + 1 ≤ _; omega, fun k hk2 => ?_⟩;have hcn : (PD.mk 0 0 [] ds).cnt = cnts ds := cnt_eq _;rw [hcn];show if _ then l9 _ _ = _ else fails (l9 _ _)
     by_cases h3 : k + 1 ≤ 600
     ·have g := e5 (k + 1) (by show k + 1 + 0 ≤ _; omega);rw [List.nil_append] at g;rw [hgo2 k h3];by_cases h6 : k + 1 + cnts ds ≤ 600
      ·rw [if_pos h6] at g;rw [if_pos (by omega), g, show k + 1 + cnts ds = k + (cnts ds + 1) by omega]
      ·rw [if_neg h6] at g;rw [if_neg (by omega)]; exact g
     ·rw [if_neg (by omega)]; exact hbig k hk2 h3
   rw [if_neg h40, s_l1Atom_eq src (by omega) p1 (by omega), f7];have hew := endW_le (src := src) (p := p1) (by omega);have hwl := nJ src p1 (endW src p1);have hgo2 : ∀ k : Nat, k + 1 ≤ 600 → l9 (k9 n2) (PRdI.mk src (p : Int) (k : Int)) = some ((atI (atomD (word src p1 (endW src p1)))).1, (atI (atomD (word src p1 (endW src p1)))).2, PRdI.mk src (endW src p1 : Nat) ((k : Int) + 1)) := fun k h3 => by
    rw [hgo k h3, if_neg h40, if_neg h41, if_neg h39, if_neg h34, i_atom_eq src (by omega) p1 (by omega)]
   cases hat : atomD (word src p1 (endW src p1)) with
   | none =>
    refine .inl ⟨_, _, rfl, by omega, by omega, fun k hk2 => ?_⟩;by_cases h3 : k + 1 ≤ 600
    ·show fails (l9 _ _);rw [hgo2 k h3, hat];exact ⟨_, _, rfl⟩
    ·exact hbig k hk2 h3
   | some d =>
    have hd := atomD_w hat;have hne : p1 < endW src p1 := by
     rcases Nat.lt_or_ge p1 (endW src p1) with h | h
     ·exact h
     ·have h0 : word src p1 (endW src p1) = [] := List.length_eq_zero_iff.1 (by omega);rw [h0, atomD_nil] at hat; cases hat
    refine .inr ⟨_, endW src p1, rfl, by omega, hew.2, by show wD d + 1 ≤ _; omega, fun k hk2 => ?_⟩;show if k + (d.cnt + 1) ≤ 600 then l9 _ _ = some (d, _) else fails (l9 _ _)
    rw [hd.2];by_cases h3 : k + 1 ≤ 600
    ·rw [if_pos (by omega), hgo2 k h3, hat]; rfl
    ·rw [if_neg (by omega)]; exact hbig k hk2 h3
  ·rw [if_pos (by omega)];refine .inl ⟨_, _, rfl, by omega, by omega, fun k hk2 => ?_⟩;show fails (l9 _ _);unfold l9;rw [kS src (by omega) p hp, f7, hsk];dsimp only;rw [j5 (by show _ ∧ _; omega), if_pos (by omega)];exact ⟨_, _, rfl⟩
end Go.Abs

namespace Go.Abs
open Go.Lib (decFrom itoa decDigits digitVal)
def splN : Nat → List UInt8 → List (List UInt8)
 | 0, s => [s]
 | n + 1, s => if fnd (isB 32) s < s.length then s.take (fnd (isB 32) s) :: splN n (s.drop (fnd (isB 32) s + 1)) else [s]
def spl (s : List UInt8) : List (List UInt8) := splN (s.count 32) s
theorem splitK_eq : ∀ (k : Nat) (s : List UInt8), Go.Lib.splitK [32] 0 k s = splN k s
 | 0, _ => rfl
 | k + 1, s => by
  unfold Go.Lib.splitK splN;rw [wB];by_cases hl : fnd (isB 32) s < s.length
  ·have e1 : ¬ ((((fnd (isB 32) s : Nat) : Int) == -1) = true) := by simp
   rw [if_pos hl, if_pos hl, if_neg e1, splitK_eq k];rfl
  ·rw [if_neg hl, if_neg hl]; rfl
theorem split_eq (s : List UInt8) : Go.Lib.split s [32] = spl s := by
 unfold Go.Lib.split spl;rw [splitK_eq, Go.Lib.count_one]
theorem cnt_fnd : ∀ s : List UInt8, if fnd (isB 32) s < s.length then s.count 32 = 1 + (s.drop (fnd (isB 32) s + 1)).count 32 else s.count 32 = 0
 | [] => by simp [fnd]
 | b :: r => by
  have ih := cnt_fnd r;have e := isB_eq b;by_cases hb : b = 32
  ·have f1 : fnd (isB 32) (b :: r) = 0 := by rw [iP, e, decide_eq_true hb, if_pos rfl]
   rw [f1, if_pos (by simp), hb];simp; omega
  ·have f1 : fnd (isB 32) (b :: r) = 1 + fnd (isB 32) r := by rw [iP, e, decide_eq_false hb, if_neg (by simp)]
   rw [f1, List.count_cons_of_ne hb, List.length_cons, show 1 + fnd (isB 32) r + 1 = (fnd (isB 32) r + 1) + 1 by omega, List.drop_succ_cons];split at ih
   ·rw [if_pos (by omega)]; exact ih
   ·rw [if_neg (by omega)]; exact ih
theorem spl_eq (s : List UInt8) : spl s = if fnd (isB 32) s < s.length then s.take (fnd (isB 32) s) :: spl (s.drop (fnd (isB 32) s + 1)) else [s] := by
 have h := cnt_fnd s;unfold spl;by_cases hl : fnd (isB 32) s < s.length
 ·rw [if_pos hl] at h ⊢;rw [h, show 1 + (s.drop (fnd (isB 32) s + 1)).count 32 = (s.drop (fnd (isB 32) s + 1)).count 32 + 1 by omega, splN, if_pos hl]
 ·rw [if_neg hl] at h ⊢;rw [h]; rfl
def rst (s : List UInt8) : List (List UInt8) := if fnd (isB 32) s < s.length then spl (words s).2 else []
theorem lU (s : List UInt8) : spl s = (words s).1 :: rst s := by
 rw [spl_eq];unfold words rst words;split <;> rfl
theorem nK {s : List UInt8} (h : s ≠ []) : (words s).2.length < s.length := by
 have := List.length_pos_iff.2 h;unfold words;split
 ·dsimp only; rw [List.length_drop]; omega
 ·simpa using this
def val (w : List UInt8) : Int := if (numS w).2 = true then (numS w).1 else -1
def numsN : Nat → List UInt8 → List Int
 | 0, _ => []
 | n + 1, s => if s = [] then [] else val (words s).1 :: numsN n (words s).2
def numsS (s : List UInt8) : List Int := numsN s.length s
theorem numsN_eq : ∀ (n m : Nat) (s : List UInt8), s.length ≤ n → s.length ≤ m → numsN n s = numsN m s
 | 0, 0, _, _, _ => rfl
 | 0, m + 1, s, h, _ => by
  have : s = [] := List.eq_nil_of_length_eq_zero (by omega);unfold numsN; rw [if_pos this]
 | n + 1, 0, s, _, h => by
  have : s = [] := List.eq_nil_of_length_eq_zero (by omega);unfold numsN; rw [if_pos this]
 | n + 1, m + 1, s, h1, h2 => by
  unfold numsN;by_cases h : s = []
  ·rw [if_pos h, if_pos h]
  ·have := nK h;rw [if_neg h, if_neg h, numsN_eq n m _ (by omega) (by omega)]
theorem gT : numsS [] = [] := rfl
theorem uM {s : List UInt8} (h : s ≠ []) : numsS s = val (words s).1 :: numsS (words s).2 := by
 have hl := nK h;have e : s.length = (s.length - 1) + 1 := by omega
 unfold numsS;rw [e, numsN, if_neg h, numsN_eq (s.length - 1) (words s).2.length _ (by omega) (Nat.le_refl _)]
theorem qF : ∀ (n : Nat) (s : List UInt8), s.length ≤ n → (numsS s).length ≤ n
 | n, s, h => by
  by_cases hs : s = []
  ·subst hs; simp [gT]
  ·have := nK hs
   match n, h with
   | 0, h => exact absurd (List.eq_nil_of_length_eq_zero (by omega)) hs
   | n + 1, h =>
    rw [uM hs, List.length_cons];have := qF n (words s).2 (by omega);omega
def okN (w : List UInt8) : Prop := (numS w).2 = true ∧ 0 ≤ (numS w).1
instance (w : List UInt8) : Decidable (okN w) := by unfold okN; exact inferInstance
theorem okN_nil : ¬ okN [] := by unfold okN numS; simp
theorem numsS_spl : ∀ (n : Nat) (s : List UInt8), s.length ≤ n → (∀ p ∈ spl s, okN p) → numsS s = (spl s).map fun p => (numS p).1 := by
 intro n;induction n with
 | zero =>
  intro s h hp;have : s = [] := List.eq_nil_of_length_eq_zero (by omega);subst this;exact absurd (hp [] (by simp [spl, splN])) okN_nil
 | succ n ih =>
  intro s h hp;have hw := lU s;have h1 := hp (words s).1 (by rw [hw]; simp);by_cases hs : s = []
  ·subst hs; exact absurd h1 okN_nil
  ·have hv : val (words s).1 = (numS (words s).1).1 := by unfold val; rw [if_pos h1.1]
   have hlt := nK hs;rw [uM hs, hw, List.map_cons, hv];congr 1;by_cases hl : fnd (isB 32) s < s.length
   ·have er : rst s = spl (words s).2 := by unfold rst; rw [if_pos hl]
    rw [er];exact ih _ (by omega) fun p hp' => hp p (by rw [hw, er]; simp [hp'])
   ·have er : rst s = [] := by unfold rst; rw [if_neg hl]
    have e2 : (words s).2 = [] := by unfold words; rw [if_neg hl]
    rw [er, e2, gT]; rfl
theorem nX : ∀ (l : List UInt8) (acc m : Nat) (d : Nat), d < 10 → decFrom acc l = some m → decFrom acc (l ++ [UInt8.ofNat (48 + d)]) = some (m * 10 + d)
 | [], acc, m, d, hd, h => by
  simp [decFrom] at h;subst h;have e1 : (UInt8.ofNat (48 + d)).toNat = 48 + d := by rw [UInt8.toNat_ofNat']; omega
  simp only [List.nil_append, decFrom, digitVal, e1];rw [if_pos (by simp; omega)];simp
 | b :: r, acc, m, d, hd, h => by
  rw [List.cons_append];unfold decFrom at h ⊢;split at h
  ·rename_i v hv;exact nX r _ m d hd h
  ·cases h
theorem nO : ∀ (n u : Nat), u < n → decFrom 0 (decDigits u) = some u
 | 0, u, h => by omega
 | n + 1, u, h => by
  by_cases hu : u < 10
  ·rw [kK hu];have := nX [] 0 0 u hu rfl;simpa using this
  ·rw [ab8 hu];have h1 := nO n (u / 10) (by omega);have h2 := nX _ _ _ (u % 10) (Nat.mod_lt _ (by omega)) h1;rw [h2];congr 1;omega
theorem dec_ne (u : Nat) : decDigits u ≠ [] := by
 by_cases hu : u < 10
 ·rw [kK hu]; simp
 ·rw [ab8 hu]; simp
theorem numS_itoa (u : Nat) (h : u ≤ 999999999) : numS (itoa (u : Int)) = ((u : Int), true) := by
 have hd := nO (u + 1) u (by omega);have hl := vJ u h;have hi := uK u;have hg := dig_of (u + 1) u (by omega);rw [hi];cases e : decDigits u with
 | nil => exact absurd e (dec_ne u)
 | cons b r =>
  rw [e] at hd hl hg;have hb := (hg b (by simp)).1;rw [qD, if_neg (fun hh => by subst hh; revert hb; decide), if_neg (by omega), hd];dsimp only;rw [hi, e, if_pos rfl]
theorem fD {n : Int} (h : 0 ≤ n ∧ n ≤ 999999999) : okN (itoa n) ∧ (numS (itoa n)).1 = n := by
 obtain ⟨u, rfl⟩ := Int.eq_ofNat_of_zero_le h.1;have := numS_itoa u (by omega);unfold okN;rw [this];exact ⟨⟨rfl, h.1⟩, rfl⟩
theorem pV {n : Int} (h : 0 ≤ n ∧ n ≤ 999999999) : ∀ b ∈ itoa n, b ≠ 32 := by
 obtain ⟨u, rfl⟩ := Int.eq_ofNat_of_zero_le h.1;rw [uK];intro b hb e;have := dig_of (u + 1) u (by omega) b hb;rw [e] at this;revert this; decide
theorem uI : ∀ {w : List UInt8}, (∀ b ∈ w, b ≠ 32) → ∀ r, fnd (isB 32) (w ++ 32 :: r) = w.length ∧ fnd (isB 32) w = w.length
 | [], _, r => by
  have e := isB_eq 32;exact ⟨by rw [List.nil_append, iP, e, decide_eq_true rfl, if_pos rfl]; rfl, rfl⟩
 | b :: w, h, r => by
  have e := isB_eq b;obtain ⟨h1, h2⟩ := uI (w := w) (fun x hx => h x (by simp [hx])) r;have hb : b ≠ 32 := h b (by simp);rw [List.cons_append, iP, iP, e, decide_eq_false hb, if_neg (by simp), if_neg (by simp), h1, h2, List.length_cons];omega
theorem uS {w : List UInt8} (h : ∀ b ∈ w, b ≠ 32) (r : List UInt8) : spl (w ++ 32 :: r) = w :: spl r := by
 have h1 := (uI h r).1;rw [spl_eq, h1, if_pos (by simp)];simp
theorem spl_one {w : List UInt8} (h : ∀ b ∈ w, b ≠ 32) : spl w = [w] := by
 have h1 := (uI h []).2;rw [spl_eq, h1, if_neg (by omega)]
end Go.Abs

namespace Go.Abs
open PD
theorem cnts_wDs (ds : List PD) : cnts ds ≤ wDs ds := zQ.2 ds
theorem small_of {ds : List PD} (h : wDs ds ≤ 1048576) : ∀ x ∈ ds, x.small := fun x hx => uR (by have := oX hx; omega)
def finD (l : List PD) : List PD × Bool := if areD l = true then (l, true) else ([], false)
theorem finD_many {l : List PD} (h : 600 < cnts l) : finD l = ([], false) := by
 unfold finD;rw [if_neg];intro e;have := ((areD_iff l).1 e).2.1;omega
theorem data_all (src : List UInt8) (hl : src.length ≤ 15000) : ∀ (t M1 M2 p : Nat) (out : List PD), src.length - p < t → t + 1 ≤ M1 → t + 1 ≤ M2 → p ≤ src.length → out.length ≤ p → wDs out ≤ 8 * p →
 ∃ res, itr I1 M1 (PRdS.mk src (sk src p : Nat) false, out) = some res ∧ (cnts out ≤ 600 → itr (bB src) M2 (PRdI.mk src (p : Int) ((cnts out : Nat) : Int), out) = some res) ∧ (600 < cnts out → res = ([], false)) ∧ wDs res.1 ≤ 8 * src.length ∧ (res.2 = false → res.1 = []) := by
 intro t;induction t with
 | zero => intro _ _ p _ h; omega
 | succ t iht =>
  intro M1 M2 p out ht hM1 hM2 hp hol how;obtain ⟨M1, rfl⟩ : ∃ m, M1 = m + 1 := ⟨M1 - 1, by omega⟩
  obtain ⟨M2, rfl⟩ : ∃ m, M2 = m + 1 := ⟨M2 - 1, by omega⟩
  have hk := sk_le hp;have hsm := small_of (ds := out) (by omega);have hcw := cnts_wDs out;rw [oE, oE];have hI : ∀ go (k : Int), bB src go (PRdI.mk src (p : Int) k, out) = if ((sk src p : Nat) : Int) ≥ (src.length : Int) then some (finD out) else bnd (k9 RF (PRdI.mk src (sk src p : Nat) k)) fun x6 => if x6.2.1 = true then chk ((out.length + ([x6.1] : List PD).length) * 56 ≤ 140737488355328) <| go (x6.2.2, out ++ [x6.1]) else some ([], false) := fun go k => by
   show T6 src go (PRdI.mk src (p : Int) k) out = _;unfold T6 finD;rw [kS src (by omega) p hp k, f7];dsimp only;by_cases h : ((sk src p : Nat) : Int) ≥ (src.length : Int)
   ·rw [if_pos h, if_pos h, i_AreData_eq out hsm (by omega), f7];split <;> rfl
   ·rw [if_neg h, if_neg h]
  have hS : I1 (itr I1 M1) (PRdS.mk src (sk src p : Nat) false, out) = if ((sk src p : Nat) : Int) < (src.length : Int) then bnd (z7 RF (PRdS.mk src (sk src p : Nat) false)) fun x7 => chk ((out.length + ([x7.1] : List PD).length) * 56 ≤ 140737488355328) <| bnd (V5 x7.2) fun x8 => itr I1 M1 (x8, out ++ [x7.1]) else some (finD out) := by
   show I7 (itr I1 M1) (PRdS.mk src (sk src p : Nat) false) out = _;unfold I7 M5 finD;dsimp only;rw [if_neg (by simp)];by_cases h : ((sk src p : Nat) : Int) < (src.length : Int)
   ·rw [decide_eq_true h, if_pos rfl, if_pos h]
   ·rw [decide_eq_false h, if_neg (by simp), if_neg h, if_neg (by simp), s_AreData_eq out hsm (by omega), f7];split <;> rfl
  rw [hS, hI];generalize sk src p = p1 at hk;by_cases h1 : p1 < src.length
  ·rw [if_pos (by omega), if_neg (by omega)];rcases rd_all src hl (src.length + 1) RF RF p1 (by omega) (by rw [RF_eq]; omega) (by rw [RF_eq]; omega) (by omega) with ⟨d, pos, e1, e2, e3, e4⟩ | ⟨d, q, e1, e2, e3, e4, e5⟩
   ·obtain ⟨pos', f1, f2, f3⟩ := aa3 src (by omega) pos e2 true;rw [e1, f7, j5 (by simp only [List.length_cons, List.length_nil]; omega), f1, f7];obtain ⟨M1, rfl⟩ : ∃ m, M1 = m + 1 := ⟨M1 - 1, by omega⟩
    refine ⟨([], false), ?_, fun hc => ?_, fun _ => rfl, by show 0 ≤ _; omega, fun _ => rfl⟩
    ·rw [oE];show I7 (itr I1 M1) (PRdS.mk src pos' true) (out ++ [d]) = _;unfold I7 M5;dsimp only;rw [if_pos rfl, if_neg (by simp), if_pos rfl]
    ·obtain ⟨d2, r2, g⟩ := e4 (cnts out) (by omega);have g' : k9 RF (PRdI.mk src (p1 : Int) ((cnts out : Nat) : Int)) = some (d2, false, r2) := g;rw [g', f7, if_neg (by simp)]
   ·have hc : cnts out + (d.cnt + 1) = cnts (out ++ [d]) := by rw [iM, mG]
    have hw : wDs (out ++ [d]) = wDs out + (1 + wD d) := by rw [ag6, uU]; rfl
    rw [e1, f7, j5 (by simp only [List.length_cons, List.length_nil]; omega), iC src (by omega) q e3 false, f7];obtain ⟨res, g1, g2, g3, g4, g5⟩ := iht M1 M2 q (out ++ [d]) (by omega) (by omega) (by omega) e3 (by simp only [List.length_append, List.length_cons, List.length_nil]; omega) (by omega);refine ⟨res, g1, fun h6 => ?_, fun h6 => g3 (by omega), g4, g5⟩;have g := e5 (cnts out) (by omega);by_cases h7 : cnts (out ++ [d]) ≤ 600
    ·rw [if_pos (by omega), hc] at g;have g' : k9 RF (PRdI.mk src (p1 : Int) ((cnts out : Nat) : Int)) = some (d, true, PRdI.mk src (q : Int) ((cnts (out ++ [d]) : Nat) : Int)) := g;rw [g', f7, if_pos rfl, j5 (by simp only [List.length_cons, List.length_nil]; omega)];exact g2 h7
    ·rw [if_neg (by omega)] at g;obtain ⟨d2, r2, g⟩ := g;have g' : k9 RF (PRdI.mk src (p1 : Int) ((cnts out : Nat) : Int)) = some (d2, false, r2) := g;rw [g', f7, if_neg (by simp), g3 (by omega)]
  ·rw [if_neg (by omega), if_pos (by omega)];refine ⟨finD out, rfl, fun _ => rfl, fun h => finD_many h, ?_, ?_⟩
   ·unfold finD;split
    ·show wDs out ≤ _; omega
    ·show 0 ≤ _; omega
   ·unfold finD;split
    ·intro h; cases h
    ·intro _; rfl
theorem ParseData_eq (src : List UInt8) : ∃ res, eD src = some res ∧ dI src = some res ∧ wDs res.1 ≤ 120000 ∧ (res.2 = false → res.1 = []) := by
 unfold eD dI;by_cases h : (src.length : Int) > 15000
 ·rw [if_pos h, if_pos h];exact ⟨_, rfl, rfl, by show 0 ≤ _; omega, fun _ => rfl⟩
 ·rw [if_neg h, if_neg h];obtain ⟨res, g1, g2, g3, g4, g5⟩ := data_all src (by omega) (src.length + 1) LF LF 0 [] (by omega) (by rw [LF_eq]; omega) (by rw [LF_eq]; omega) (by omega) (by simp) (by show 0 ≤ _; omega);have hs := iC src (by omega) 0 (by omega) false;have hs' : V5 (PRdS.mk src 0 false) = some (PRdS.mk src (sk src 0 : Nat) false) := hs;rw [hs', f7];exact ⟨res, g1, g2 (by show 0 ≤ _; omega), by omega, g5⟩
def codeW : List UInt8 := [99, 111, 100, 101]
theorem op_code (op : Int) (h : 1 ≤ op ∧ op ≤ 20) : ∀ t, aA op = some t → t ≠ codeW := by
 obtain ⟨i, hi⟩ : ∃ i : Nat, op - 1 = (i : Int) := ⟨(op - 1).toNat, by omega⟩
 have c : I64 (op - 1) := show -9223372036854775808 ≤ op - 1 ∧ op - 1 ≤ 9223372036854775807 by omega
 intro t ht;unfold aA at ht;rw [if_neg (by omega), if_neg (by omega), j5 c, hi, o9 (show i < G3.length by show i < 20; omega), f7] at ht;obtain rfl := Option.some.inj ht;have key : ∀ k, (hk : k < 20) → G3[k]'(show k < 20 from hk) ≠ codeW := by decide
 exact key i (by omega)
theorem ops_all (s : List UInt8) (w : List UInt8 × List UInt8) (f : Bool) (hS : SM w.2) : ∀ (t M1 M2 op : Nat), 21 - op < t → t ≤ M1 → t ≤ M2 → 1 ≤ op →
 ∃ r, itr (aI s w) M1 (op : Int) = some r ∧ itr (aB s (w.1, w.2, f)) M2 (op : Int) = some r ∧ wD r.1.d ≤ 120000 ∧ (r.2 = false → r.1.op = 0) ∧ (w.1 = codeW → r.2 = false) := by
 intro t;induction t with
 | zero => intro _ _ p h; omega
 | succ t iht =>
  intro M1 M2 op ht hM1 hM2 h1;obtain ⟨M1, rfl⟩ : ∃ m, M1 = m + 1 := ⟨M1 - 1, by omega⟩
  obtain ⟨M2, rfl⟩ : ∃ m, M2 = m + 1 := ⟨M2 - 1, by omega⟩
  have hz : wD zD ≤ 120000 := by show 0 ≤ _; omega
  rw [oE, oE];show ∃ r, R7 s w (itr (aI s w) M1) (op : Int) = some r ∧ R3 s (w.1, w.2, f) (itr (aB s (w.1, w.2, f)) M2) (op : Int) = some r ∧ _;unfold R7 R3;dsimp only;by_cases h20 : (op : Int) ≤ 20
  ·obtain ⟨n, n1, n2, _⟩ := OpName_eq (op : Int) (by omega);have hnc := op_code (op : Int) (by omega) n n1;rw [if_pos h20, if_pos h20, n1, n2, f7, f7];by_cases hw : n = w.1
   ·rw [if_pos hw, if_pos hw];by_cases ho : (op : Int) = 1
    ·obtain ⟨res, d1, d2, d3, d4⟩ := ParseData_eq w.2;rw [if_pos ho, if_pos ho, d1, d2, f7, f7];by_cases hlen : (res.1.length : Int) = 1
     ·have hne : res.1.length = 1 := by omega
      obtain ⟨x, hx⟩ : ∃ x, res.1 = [x] := List.length_eq_one_iff.1 hne;have hx0 : nth res.1 0 = some x := by rw [hx]; rfl
      have hwx : wD x ≤ 120000 := by
       have : x ∈ res.1 := by rw [hx]; simp
       have := oX this;omega
      obtain ⟨tx, t1, t2, _⟩ := FormatInstr_eq (PInstr.mk (op : Int) 0 x) (by show wD x ≤ _; omega);have hok : res.2 = true := by
       cases hb : res.2
       ·exact absurd hne (by rw [d4 hb]; simp)
       ·rfl
      rw [if_pos hlen, if_pos hlen, if_pos hok, hx0, f7, f7, t1, t2, f7];by_cases hq : tx = s
      ·rw [if_pos hq]; exact ⟨_, rfl, rfl, hwx, (fun e => by cases e), fun e => absurd (hw.trans e) hnc⟩
      ·rw [if_neg hq]; exact ⟨_, rfl, rfl, hz, (fun _ => rfl), fun _ => rfl⟩
     ·rw [if_neg hlen, if_neg hlen];refine ⟨_, rfl, ?_, hz, (fun _ => rfl), fun _ => rfl⟩;split <;> rfl
    ·rw [if_neg ho, if_neg ho, cL _ hS, cB _ hS, f7, f7];obtain ⟨tx, t1, t2, _⟩ := FormatInstr_eq (PInstr.mk (op : Int) (numS w.2).1 zD) (by show wD zD ≤ _; omega);have t1' : C5 (PInstr.mk (op : Int) (numS w.2).1 (PD.mk 0 0 ([] : List UInt8) [])) = some tx := t1;have t2' : E5 (PInstr.mk (op : Int) (numS w.2).1 (PD.mk 0 0 ([] : List UInt8) [])) = some tx := t2;rw [t1', t2', f7];by_cases hq : tx = s
     ·rw [if_pos hq]; exact ⟨_, rfl, rfl, hz, (fun e => by cases e), fun e => absurd (hw.trans e) hnc⟩
     ·rw [if_neg hq]; exact ⟨_, rfl, rfl, hz, (fun _ => rfl), fun _ => rfl⟩
   ·rw [if_neg hw, if_neg hw, j5 (by show _ ∧ _; omega), j5 (by show _ ∧ _; omega)];exact iht M1 M2 (op + 1) (by omega) (by omega) (by omega) (by omega)
  ·rw [if_neg h20, if_neg h20];exact ⟨_, rfl, rfl, hz, (fun _ => rfl), fun _ => rfl⟩
theorem ParseInstr_all (s : List UInt8) (h : s.length ≤ 1048576) : ∃ r, bP s = some r ∧ bK s = some r ∧ wD r.1.d ≤ 120000 ∧ (r.2 = false → r.1.op = 0) ∧ ((words s).1 = codeW → r.2 = false) := by
 unfold bP bK;obtain ⟨f, hf⟩ := x_Cut_eq s h;have hwl := lZ s;rw [V4 s h, hf, f7, f7];exact ops_all s (words s) f (by unfold SM; omega) 22 LF LF 1 (by omega) (by rw [LF_eq]; omega) (by rw [LF_eq]; omega) (by omega)
end Go.Abs

namespace Go.Abs
open Go.Lib (itoa)
theorem same_loop {L : (Int → Option Bool) → Int → Option Bool} (a b : LL) (hl : a.length = b.length) (ha : a.length ≤ 1048576)
 (hL : ∀ go (i : Int), L go i = if i < (a.length : Int) then bnd (nth a i) fun x5 => bnd (nth b i) fun x6 => if x5 = x6 then chk (I64 (i + 1)) <| go (i + 1) else some false else some true) :
 itr L LF 0 = some (decide (a = b)) := by
 refine (fQ a.length (fun i => some (decide (a.drop i = b.drop i))) (by omega) (fun go i hi hgo => ?_) (fun go => ?_)).trans (by simp)
 ·have hi2 : i < b.length := by omega
  have key : (a.drop i = b.drop i) ↔ (a[i] = b[i] ∧ a.drop (i + 1) = b.drop (i + 1)) := by
   rw [List.drop_eq_getElem_cons hi, List.drop_eq_getElem_cons hi2, List.cons.injEq]
  rw [hL, if_pos (by omega), o9 hi, f7, o9 hi2, f7];by_cases h : a[i] = b[i]
  ·rw [if_pos h, j5 (show -9223372036854775808 ≤ (i : Int) + 1 ∧ (i : Int) + 1 ≤ 9223372036854775807 by omega), hgo];congr 1;exact decide_eq_decide.2 ⟨fun e => key.2 ⟨h, e⟩, fun e => (key.1 e).2⟩
  ·rw [if_neg h, decide_eq_false (fun e => h (key.1 e).1)]
 ·rw [hL, if_neg (by omega), List.drop_length, hl, List.drop_length]; simp
theorem V9 (a b : LL) (ha : a.length ≤ 1048576) : X6 a b = some (decide (a = b)) := by
 unfold X6;by_cases h : (a.length : Int) = (b.length : Int)
 ·rw [if_pos h]; exact same_loop a b (by omega) ha (fun go i => rfl)
 ·rw [if_neg h, decide_eq_false (fun e => h (by rw [e]))]
theorem xQ (a b : LL) (ha : a.length ≤ 1048576) : nC a b = some (decide (a = b)) := by
 unfold nC;by_cases h : (a.length : Int) = (b.length : Int)
 ·rw [if_pos h]; exact same_loop a b (by omega) ha (fun go i => rfl)
 ·rw [if_neg h, decide_eq_false (fun e => h (by rw [e]))]
theorem words1_len (s : List UInt8) : (words s).1.length ≤ s.length := by
 unfold words;split
 ·dsimp only; rw [List.length_take]; omega
 ·exact Nat.le_refl _
theorem eI (s : List UInt8) (h : s.length ≤ 1048576) : K6 s = some (numsS s) := by
 have key : ∀ (n M : Nat) (s : List UInt8) (out : List Int), s.length ≤ n → n + 1 ≤ M → out.length + n ≤ 1048576 → itr J1 M (s, out) = some (out ++ numsS s) := by
  intro n;induction n with
  | zero =>
   intro M s out hs hM ho;obtain ⟨M, rfl⟩ : ∃ m, M = m + 1 := ⟨M - 1, by omega⟩
   have : s = [] := List.eq_nil_of_length_eq_zero (by omega);subst this;rw [oE];show B5 (itr J1 M) [] out = _;unfold B5;rw [if_pos rfl, gT, List.append_nil]
  | succ n ih =>
   intro M s out hs hM ho;obtain ⟨M, rfl⟩ : ∃ m, M = m + 1 := ⟨M - 1, by omega⟩
   rw [oE];show B5 (itr J1 M) s out = _;unfold B5 C7;by_cases h0 : s = []
   ·rw [if_pos h0, h0, gT, List.append_nil]
   ·have hlt := nK h0;have hw1 := words1_len s;rw [if_neg h0, V4 s (by omega), f7, cL _ (by unfold SM; omega), f7, uM h0];have step : ∀ v : Int, chk ((out.length + ([v] : List Int).length) * 8 ≤ 140737488355328) (itr J1 M ((words s).2, out ++ [v])) = some (out ++ v :: numsS (words s).2) := fun v => by
     rw [j5 (by simp; omega), ih M _ _ (by omega) (by omega) (by simp; omega)]; simp
    unfold val;by_cases hv : (numS (words s).1).2 = true
    ·rw [if_pos hv, if_pos hv]; exact step _
    ·rw [if_neg hv, if_neg hv]; exact step _
 unfold K6;exact key s.length LF s [] (Nat.le_refl _) (by rw [LF_eq]; omega) (by simpa using h)
theorem val_range (w : List UInt8) : -999999999 ≤ val w ∧ val w ≤ 999999999 := by
 have := zY w;unfold val;split <;> omega
theorem numsS_range : ∀ (n : Nat) (s : List UInt8), s.length ≤ n → ∀ v ∈ numsS s, -999999999 ≤ v ∧ v ≤ 999999999 := by
 intro n;induction n with
 | zero =>
  intro s h v hv;have : s = [] := List.eq_nil_of_length_eq_zero (by omega);subst this; simp [gT] at hv
 | succ n ih =>
  intro s h v hv;by_cases hs : s = []
  ·subst hs; simp [gT] at hv
  ·rw [uM hs] at hv;rcases List.mem_cons.1 hv with rfl | hv
   ·exact val_range _
   ·exact ih _ (by have := nK hs; omega) v hv
def numR : List (List UInt8) → List Int → List Int × Bool
 | [], out => (out, true)
 | p :: r, out => if okN p then numR r (out ++ [(numS p).1]) else ([], false)
theorem ae5 : ∀ (ps : List (List UInt8)) (out : List Int), (∀ p ∈ ps, okN p) → numR ps out = (out ++ ps.map fun p => (numS p).1, true)
 | [], out, _ => by simp [numR]
 | p :: r, out, h => by
  unfold numR;rw [if_pos (h p (by simp)), ae5 r _ fun q hq => h q (by simp [hq])];simp
theorem numR_ok : ∀ (ps : List (List UInt8)) (out : List Int), (numR ps out).2 = true → ∀ p ∈ ps, okN p
 | [], _, _ => by simp
 | p :: r, out, h => by
  unfold numR at h;split at h
  ·rename_i hp;intro q hq;rcases List.mem_cons.1 hq with rfl | hq
   ·exact hp
   ·exact numR_ok r _ h q hq
  ·cases h
theorem splN_mem : ∀ (k : Nat) (s : List UInt8), ∀ p ∈ splN k s, p.length ≤ s.length
 | 0, s, p, h => by simp [splN] at h; subst h; exact Nat.le_refl _
 | k + 1, s, p, h => by
  unfold splN at h;split at h
  ·rcases List.mem_cons.1 h with rfl | h
   ·rw [List.length_take]; omega
   ·have := splN_mem k _ p h;rw [List.length_drop] at this; omega
  ·simp at h; subst h; exact Nat.le_refl _
theorem splN_len : ∀ (k : Nat) (s : List UInt8), (splN k s).length ≤ k + 1
 | 0, s => by simp [splN]
 | k + 1, s => by
  unfold splN;split
  ·have := splN_len k (s.drop (fnd (isB 32) s + 1)); simp; omega
  ·simp
theorem rst_facts (s : List UInt8) : (rst s).length ≤ s.length ∧ ∀ p ∈ rst s, p.length ≤ s.length := by
 have hw := lU s;have hl := splN_len (s.count 32) s;have hc : s.count 32 ≤ s.length := List.count_le_length;have hm := splN_mem (s.count 32) s;have e : splN (s.count 32) s = (words s).1 :: rst s := hw;rw [e] at hl hm;refine ⟨by simp at hl; omega, fun p hp => hm p (by simp [hp])⟩
theorem dN (s w : List UInt8) (h : s.length ≤ 1048576) : I4 s w = some (if (words s).1 = w then numR (rst s) [] else ([], false)) := by
 unfold I4 ah1;obtain ⟨hr1, hr2⟩ := rst_facts s;rw [j5 (by omega), j5 (by simp), split_eq, f7, lU];have h0 : nth ((words s).1 :: rst s) 0 = some (words s).1 := rfl;rw [h0, f7];by_cases hc : (words s).1 = w
 ·rw [if_pos hc, if_pos hc, j5 (by simp; omega)];have hd : List.drop (1 : Int).toNat ((words s).1 :: rst s) = rst s := rfl;rw [K2 (L := fN ((words s).1 :: rst s)) (rst s).length (fun i a => a.length = i) (fun i a => some (numR ((rst s).drop i) a)) (by omega) (fun go i a hi ha hgo => ?_) (fun go a ha => ?_) rfl]
  ·rfl
  ·show I5 ((words s).1 :: rst s) go (i : Int) a = _;unfold I5;have hp := hr2 (rst s)[i] (List.getElem_mem hi);rw [hd, if_pos (by omega), o9 hi, f7, cB _ (by unfold SM; omega), f7, List.drop_eq_getElem_cons hi, numR];by_cases h2 : (numS (rst s)[i]).2 = true
   ·rw [if_pos h2];by_cases h3 : (numS (rst s)[i]).1 < 0
    ·rw [if_pos h3, if_neg (fun e => by have := e.2; omega)]
    ·rw [if_neg h3, if_pos ⟨h2, by omega⟩, j5 (by simp; omega), j5 (show -9223372036854775808 ≤ (i : Int) + 1 ∧ (i : Int) + 1 ≤ 9223372036854775807 by omega), hgo _ (by simp [ha])]
   ·rw [if_neg h2, if_neg (fun e => h2 e.1)]
  ·show I5 ((words s).1 :: rst s) go ((rst s).length : Int) a = _;unfold I5;rw [hd, if_neg (by omega), List.drop_length]; rfl
 ·rw [if_neg hc, if_neg hc]
theorem yN (s : List UInt8) (h : s.length ≤ 1048576) : I4 s codeW = some (if (words s).1 = codeW then numR (rst s) [] else ([], false)) := dN s codeW h
theorem rest_same {s : List UInt8} (h2 : (numR (rst s) []).2 = true) : numsS (words s).2 = (numR (rst s) []).1 := by
 have ho := numR_ok _ _ h2;rw [ae5 _ _ ho];simp only [List.nil_append];by_cases hl : fnd (isB 32) s < s.length
 ·have er : rst s = spl (words s).2 := by unfold rst; rw [if_pos hl]
  rw [er] at ho ⊢;exact numsS_spl _ _ (Nat.le_refl _) ho
 ·have er : rst s = [] := by unfold rst; rw [if_neg hl]
  have e2 : (words s).2 = [] := by unfold words; rw [if_neg hl]
  rw [er, e2]; rfl
theorem head_same {s : List UInt8} (h2 : (numR (rst s) []).2 = true) : numsS (words s).2 = (numR (rst s) []).1 := rest_same h2
theorem head_read {a b c : Int} {xs : List PInstr} (ha : 0 ≤ a ∧ a ≤ 999999999) (hb : 0 ≤ b ∧ b ≤ 999999999) (hc : 0 ≤ c ∧ c ≤ 999999999) :
 (words (headT (PCode.mk a b c xs))).1 = codeW ∧ numR (rst (headT (PCode.mk a b c xs))) [] = ([a, b, c], true) := by
 have e : headT (PCode.mk a b c xs) = codeW ++ 32 :: (itoa a ++ 32 :: (itoa b ++ 32 :: itoa c)) := by simp [headT, codeW]
 have hs : spl (headT (PCode.mk a b c xs)) = [codeW, itoa a, itoa b, itoa c] := by
  rw [e, uS (by decide), uS (pV ha), uS (pV hb), spl_one (pV hc)]
 rw [lU] at hs;obtain ⟨h1, h2⟩ := List.cons.inj hs;refine ⟨h1, ?_⟩;rw [h2, ae5 _ _ (fun p hp => ?_)]
 ·simp [(fD ha).2, (fD hb).2, (fD hc).2]
 ·simp only [List.mem_cons, List.not_mem_nil, or_false] at hp;rcases hp with rfl | rfl | rfl
  ·exact (fD ha).1
  ·exact (fD hb).1
  ·exact (fD hc).1
end Go.Abs

namespace Go.Abs
open Go.Lib (itoa)
def Inv (cs : List PCode) (i : Nat) : Prop := (linesT cs).length = i ∧ ∀ c ∈ cs, numsOK c ∧ ∀ x ∈ c.instrs, wD x.d ≤ 120000
def Bad (cs : List PCode) : Prop := ∃ c ∈ cs, c.params < 0 ∨ c.slots < 0 ∨ c.captures < 0 ∨ ∃ x ∈ c.instrs, x.op = 0
def Doom (lines : LL) (cs : List PCode) (i : Nat) : Prop := Bad cs ∨ linesT cs ≠ lines.take i
theorem mR (a b : List PCode) : linesT (a ++ b) = linesT a ++ linesT b := by unfold linesT; rw [List.flatMap_append]
theorem mT (c : PCode) : linesT [c] = codeT c := by unfold linesT; simp
theorem aS (cs : List PCode) (a b c : Int) : linesT (cs ++ [PCode.mk a b c []]) = linesT cs ++ [headT (PCode.mk a b c [])] := by
 rw [mR, mT]; rfl
def addI (c : PCode) (x : PInstr) : PCode := PCode.mk c.params c.slots c.captures (c.instrs ++ [x])
theorem sC (ini : List PCode) (c : PCode) (x : PInstr) : linesT (ini ++ [addI c x]) = linesT (ini ++ [c]) ++ [fiT x] := by
 rw [mR, mR, mT, mT, List.append_assoc];congr 1;unfold codeT addI;simp [headT]
theorem last_nth (ini : List PCode) (c : PCode) : nth (ini ++ [c]) (((ini ++ [c]).length : Int) - 1) = some c := by
 have e : ((ini ++ [c]).length : Int) - 1 = (ini.length : Int) := by simp
 rw [e, o9 (by simp)];simp
theorem last_set (ini : List PCode) (c c' : PCode) : (ini ++ [c]).set (((ini ++ [c]).length : Int) - 1).toNat c' = ini ++ [c'] := by
 have e : (((ini ++ [c]).length : Int) - 1).toNat = ini.length := by simp
 rw [e];simp
theorem ad7 {cs : List PCode} {i : Nat} (h : Inv cs i) {a b c : Int} (hn : numsOK (PCode.mk a b c [])) : Inv (cs ++ [PCode.mk a b c []]) (i + 1) := by
 refine ⟨by rw [aS]; simp [h.1], fun q hq => ?_⟩;rcases List.mem_append.1 hq with hq | hq
 ·exact h.2 q hq
 ·rw [List.mem_singleton] at hq;subst hq;exact ⟨hn, fun x hx => by cases hx⟩
theorem inv_add {ini : List PCode} {c : PCode} {i : Nat} (h : Inv (ini ++ [c]) i) {x : PInstr} (hx : wD x.d ≤ 120000) : Inv (ini ++ [addI c x]) (i + 1) := by
 refine ⟨by rw [sC]; simp [h.1], fun q hq => ?_⟩;rcases List.mem_append.1 hq with hq | hq
 ·exact h.2 q (List.mem_append_left _ hq)
 ·rw [List.mem_singleton] at hq;subst hq;obtain ⟨h1, h2⟩ := h.2 c (by simp);refine ⟨h1, fun y hy => ?_⟩;rcases List.mem_append.1 hy with hy | hy
  ·exact h2 y hy
  ·rw [List.mem_singleton] at hy; subst hy; exact hx
theorem ab3 {cs : List PCode} (c : PCode) (h : Bad cs) : Bad (cs ++ [c]) := by
 obtain ⟨q, hq, h⟩ := h;exact ⟨q, List.mem_append_left _ hq, h⟩
theorem bad_add {ini : List PCode} {c : PCode} (x : PInstr) (h : Bad (ini ++ [c])) : Bad (ini ++ [addI c x]) := by
 obtain ⟨q, hq, h⟩ := h;rcases List.mem_append.1 hq with hq | hq
 ·exact ⟨q, List.mem_append_left _ hq, h⟩
 ·rw [List.mem_singleton] at hq;subst hq;refine ⟨addI q x, by simp, ?_⟩;rcases h with h | h | h | ⟨y, hy, h⟩
  ·exact .inl h
  ·exact .inr (.inl h)
  ·exact .inr (.inr (.inl h))
  ·exact .inr (.inr (.inr ⟨y, List.mem_append_left _ hy, h⟩))
theorem doom_step {lines : LL} {cs cs' : List PCode} {i : Nat} {t : List UInt8} (hl : (linesT cs).length = i) (ht : linesT cs' = linesT cs ++ [t]) (hb : Bad cs → Bad cs') (h : Doom lines cs i) : Doom lines cs' (i + 1) := by
 rcases h with h | h
 ·exact .inl (hb h)
 ·refine .inr fun e => h ?_;have e2 := congrArg (List.take i) e;rw [ht, List.take_append_of_le_length (by omega), List.take_of_length_le (by omega), List.take_take, Nat.min_eq_left (by omega)] at e2;exact e2
theorem three (l : List Int) (x y z : Int) : ∃ a b c r, l ++ [x, y, z] = a :: b :: c :: r := by
 match l with
 | [] => exact ⟨x, y, z, [], rfl⟩
 | [a] => exact ⟨a, x, y, [z], rfl⟩
 | [a, b] => exact ⟨a, b, x, [y, z], rfl⟩
 | a :: b :: c :: r => exact ⟨a, b, c, r ++ [x, y, z], rfl⟩
abbrev zI : PImage := PImage.mk [] 0
theorem one_line (lines : LL) (hs : ∀ l ∈ lines, l.length ≤ 1048576) (hn : lines.length ≤ 1048576) (i : Nat) (hi : i < lines.length) (cs : List PCode) (hv : Inv cs i)
 (goS : Int × List PCode → Option PImage) (goI : Int × List PCode → Option (PImage × Bool)) :
 (∃ cs' t, D1 lines goS ((i : Int), cs) = goS ((i : Int) + 1, cs') ∧ u7 lines goI ((i : Int), cs) = goI ((i : Int) + 1, cs') ∧ Inv cs' (i + 1) ∧ linesT cs' = linesT cs ++ [t] ∧ (Bad cs → Bad cs')) ∨
 (∃ cs' t, D1 lines goS ((i : Int), cs) = goS ((i : Int) + 1, cs') ∧ u7 lines goI ((i : Int), cs) = some (zI, false) ∧ Inv cs' (i + 1) ∧ linesT cs' = linesT cs ++ [t] ∧ (Bad cs → Bad cs') ∧ Doom lines cs' (i + 1)) ∨
 (D1 lines goS ((i : Int), cs) = some zI ∧ u7 lines goI ((i : Int), cs) = some (zI, false)) := by
 have hsl := hs lines[i] (List.getElem_mem hi);have hcl := dC cs;have hvl := hv.1;obtain ⟨r, p1, p2, p3, p4, p5⟩ := ParseInstr_all lines[i] hsl;have c1 : I64 ((i : Int) + 1) := show -9223372036854775808 ≤ (i : Int) + 1 ∧ (i : Int) + 1 ≤ 9223372036854775807 by omega
 have hS : D1 lines goS ((i : Int), cs) = Q6 lines goS (i : Int) cs := rfl;have hI : u7 lines goI ((i : Int), cs) = E9 lines goI (i : Int) cs := rfl;have hnum := yN lines[i] hsl;have hnum' : I4 lines[i] ([99, 111, 100, 101] : List UInt8) = some (if (words lines[i]).1 = codeW then numR (rst lines[i]) [] else ([], false)) := hnum;rw [hS, hI];unfold Q6 E9 O0 N9 Y7;rw [if_pos (by omega), if_pos (by omega), o9 hi, f7, f7, V4 _ hsl, hnum', f7, f7, p1, p2, f7, f7];by_cases hc : (words lines[i]).1 = codeW
 ·have hw2 := lZ lines[i];obtain ⟨a, b, c, q, hl⟩ := three (numsS (words lines[i]).2) (-1) (-1) (-1);have hrg : ∀ v ∈ numsS (words lines[i]).2 ++ [-1, -1, -1], -999999999 ≤ v ∧ v ≤ 999999999 := fun v hv' => by
   rcases List.mem_append.1 hv' with hv' | hv'
   ·exact numsS_range _ _ (Nat.le_refl _) v hv'
   ·simp at hv'; omega
  rw [hl] at hrg;have hok : numsOK (PCode.mk a b c []) := ⟨hrg a (by simp), hrg b (by simp), hrg c (by simp)⟩
  have hnl := qF _ (words lines[i]).2 (Nat.le_refl _);have hc' : (words lines[i]).1 = ([99, 111, 100, 101] : List UInt8) := hc;have hp5 := p5 hc;have k0 : nth (a :: b :: c :: q) 0 = some a := rfl;have k1 : nth (a :: b :: c :: q) 1 = some b := rfl;have k2 : nth (a :: b :: c :: q) 2 = some c := rfl;rw [if_pos hc', if_pos hc, eI _ (by omega), f7, j5 (by simp; omega), hl, k0, k1, k2, f7, f7, f7, j5 (by simp; omega), j5 c1, hp5];simp only [Bool.false_eq_true, if_false];by_cases h2 : (numR (rst lines[i]) []).2 = true
  ·by_cases h3 : (numR (rst lines[i]) []).1.length = 3
   ·have hsame := head_same h2;rw [if_pos h2, decide_eq_true (by omega)];have h4 : (numR (rst lines[i]) []).1 = [a, b, c] := by
     rw [← hsame];rw [← hsame] at h3;generalize numsS (words lines[i]).2 = l at h3 hl
     match l, h3 with
     | [x, y, z], _ =>
      simp at hl;simp [hl.1, hl.2.1, hl.2.2.1]
    have j0 : nth [a, b, c] 0 = some a := rfl;have j1 : nth [a, b, c] 1 = some b := rfl;have j2 : nth [a, b, c] 2 = some c := rfl;rw [if_pos rfl, h4, j0, j1, j2, f7, f7, f7, j5 (by simp; omega), j5 c1];exact .inl ⟨_, _, rfl, rfl, ad7 hv hok, aS cs a b c, ab3 _⟩
   ·rw [if_pos h2, decide_eq_false (by omega), if_neg (by simp)];refine .inr (.inl ⟨_, _, rfl, rfl, ad7 hv hok, aS cs a b c, ab3 _, ?_⟩);by_cases hneg : a < 0 ∨ b < 0 ∨ c < 0
    ·refine .inl ⟨_, List.mem_append_right _ (List.mem_singleton.2 rfl), ?_⟩;rcases hneg with h | h | h
     ·exact .inl h
     ·exact .inr (.inl h)
     ·exact .inr (.inr (.inl h))
    ·refine .inr fun e => ?_;rw [aS, List.take_succ_eq_append_getElem hi] at e;have e2 := (List.append_inj' e rfl).2;simp only [List.cons.injEq, and_true] at e2;have hr := (head_read (a := a) (b := b) (c := c) (xs := []) ⟨by omega, hok.1.2⟩ ⟨by omega, hok.2.1.2⟩ ⟨by omega, hok.2.2.2⟩).2;rw [e2] at hr;rw [hr] at h3;exact h3 rfl
  ·rw [if_neg h2];refine .inr (.inl ⟨_, _, rfl, rfl, ad7 hv hok, aS cs a b c, ab3 _, ?_⟩);by_cases hneg : a < 0 ∨ b < 0 ∨ c < 0
   ·refine .inl ⟨_, List.mem_append_right _ (List.mem_singleton.2 rfl), ?_⟩;rcases hneg with h | h | h
    ·exact .inl h
    ·exact .inr (.inl h)
    ·exact .inr (.inr (.inl h))
   ·refine .inr fun e => ?_;rw [aS, List.take_succ_eq_append_getElem hi] at e;have e2 := (List.append_inj' e rfl).2;simp only [List.cons.injEq, and_true] at e2;have hr := (head_read (a := a) (b := b) (c := c) (xs := []) ⟨by omega, hok.1.2⟩ ⟨by omega, hok.2.1.2⟩ ⟨by omega, hok.2.2.2⟩).2;rw [e2] at hr;rw [hr] at h2;exact h2 rfl
 ·have hc' : ¬ (words lines[i]).1 = ([99, 111, 100, 101] : List UInt8) := hc;rw [if_neg hc', if_neg hc, if_neg (show ¬ (([], false) : List Int × Bool).2 = true by simp), if_neg (show ¬ (false = true) by simp)];by_cases h0 : cs = []
  ·subst h0;have hz : ((([] : List PCode).length : Nat) : Int) = 0 := rfl;rw [if_pos hz, if_pos hz];refine .inr (.inr ⟨rfl, ?_⟩);split <;> rfl
  ·obtain ⟨ini, c, rfl⟩ : ∃ ini c, cs = ini ++ [c] := ⟨cs.dropLast, cs.getLast h0, (List.dropLast_concat_getLast h0).symm⟩
   have hne : ¬ ((ini ++ [c]).length : Int) = 0 := by simp; omega
   have c2 : I64 (((ini ++ [c]).length : Int) - 1) := show -9223372036854775808 ≤ ((ini ++ [c]).length : Int) - 1 ∧ ((ini ++ [c]).length : Int) - 1 ≤ 9223372036854775807 by omega
   have hil : c.instrs.length ≤ i := by
    have : (linesT (ini ++ [c])).length = i := hvl;rw [mR, mT, List.length_append] at this;have : (codeT c).length = c.instrs.length + 1 := by unfold codeT; simp
    omega
   have c3 : (c.instrs.length + ([r.1] : List PInstr).length) * 72 ≤ 140737488355328 := by simp only [List.length_cons, List.length_nil]; omega
   rw [if_neg hne, if_neg hne, j5 c2, j5 c2, last_nth, f7, f7, j5 c3, j5 c3, last_set, j5 c1, j5 c1];by_cases hr : r.2 = true
   ·rw [if_pos hr];exact .inl ⟨ini ++ [addI c r.1], _, rfl, rfl, inv_add hv p3, sC ini c r.1, bad_add _⟩
   ·rw [if_neg hr];refine .inr (.inl ⟨ini ++ [addI c r.1], _, rfl, rfl, inv_add hv p3, sC ini c r.1, bad_add _, .inl ⟨addI c r.1, by simp, .inr (.inr (.inr ⟨r.1, by simp [addI], p4 (by simpa using hr)⟩))⟩⟩)
def mIm (cs : List PCode) : PImage := PImage.mk cs ((cs.length : Int) - 1)
def endI (lines : LL) (cs : List PCode) : Option (PImage × Bool) :=
 chk (I64 ((cs.length : Int) - 1)) <|
  if (lines.length : Int) = 0 then
   some ((PImage.mk [] 0), false)
  else
   bnd (U9 (mIm cs)) fun x5 =>
   bnd (X6 x5 lines) fun x6 =>
   if x6 = true then
    some (mIm cs, true)
   else
    some ((PImage.mk [] 0), false)
theorem read_end (lines : LL) (hn : lines.length ≤ 1048576) (cs : List PCode) (hv : Inv cs lines.length) (goS : Int × List PCode → Option PImage) (goI : Int × List PCode → Option (PImage × Bool)) :
 D1 lines goS ((lines.length : Int), cs) = some (mIm cs) ∧ u7 lines goI ((lines.length : Int), cs) = endI lines cs := by
 have hcl := dC cs;have hvl := hv.1;have c2 : I64 ((cs.length : Int) - 1) := show -9223372036854775808 ≤ (cs.length : Int) - 1 ∧ (cs.length : Int) - 1 ≤ 9223372036854775807 by omega
 constructor
 ·show Q6 lines goS (lines.length : Int) cs = _;unfold Q6;rw [if_neg (by omega), j5 c2]; rfl
 ·show E9 lines goI (lines.length : Int) cs = _;unfold E9;rw [if_neg (by omega)]; rfl
def Lost (lines : LL) (m : PImage) : Prop := m = zI ∨ ∃ cs, m = mIm cs ∧ Inv cs lines.length ∧ Doom lines cs lines.length
theorem read_S (lines : LL) (hs : ∀ l ∈ lines, l.length ≤ 1048576) (hn : lines.length ≤ 1048576) : ∀ (k M i : Nat) (cs : List PCode), i + k = lines.length → k < M → Inv cs i → Doom lines cs i →
 ∃ m, itr (D1 lines) M ((i : Int), cs) = some m ∧ Lost lines m
 | 0, M, i, cs, hk, hM, hv, hd => by
  obtain ⟨M, rfl⟩ : ∃ m, M = m + 1 := ⟨M - 1, by omega⟩
  obtain rfl : i = lines.length := by omega
  rw [oE];exact ⟨_, (read_end lines hn cs hv _ (fun _ => none)).1, .inr ⟨cs, rfl, hv, hd⟩⟩
 | k + 1, M, i, cs, hk, hM, hv, hd => by
  obtain ⟨M, rfl⟩ : ∃ m, M = m + 1 := ⟨M - 1, by omega⟩
  rw [oE];rcases one_line lines hs hn i (by omega) cs hv (itr (D1 lines) M) (fun _ => none) with ⟨cs', t, e1, _, e3, e4, e5⟩ | ⟨cs', t, e1, _, e3, e4, e5, _⟩ | ⟨e1, _⟩
  ·rw [e1]; exact read_S lines hs hn k M (i + 1) cs' (by omega) (by omega) e3 (doom_step hv.1 e4 e5 hd)
  ·rw [e1]; exact read_S lines hs hn k M (i + 1) cs' (by omega) (by omega) e3 (doom_step hv.1 e4 e5 hd)
  ·exact ⟨_, e1, .inl rfl⟩
theorem read_both (lines : LL) (hs : ∀ l ∈ lines, l.length ≤ 1048576) (hn : lines.length ≤ 1048576) : ∀ (k M1 M2 i : Nat) (cs : List PCode), i + k = lines.length → k < M1 → k < M2 → Inv cs i →
 ∃ m, itr (D1 lines) M1 ((i : Int), cs) = some m ∧ ((∃ cs', m = mIm cs' ∧ Inv cs' lines.length ∧ itr (u7 lines) M2 ((i : Int), cs) = endI lines cs') ∨ (Lost lines m ∧ itr (u7 lines) M2 ((i : Int), cs) = some (zI, false)))
 | 0, M1, M2, i, cs, hk, hM1, hM2, hv => by
  obtain ⟨M1, rfl⟩ : ∃ m, M1 = m + 1 := ⟨M1 - 1, by omega⟩
  obtain ⟨M2, rfl⟩ : ∃ m, M2 = m + 1 := ⟨M2 - 1, by omega⟩
  obtain rfl : i = lines.length := by omega
  rw [oE, oE];obtain ⟨e1, e2⟩ := read_end lines hn cs hv (itr (D1 lines) M1) (itr (u7 lines) M2);exact ⟨_, e1, .inl ⟨cs, rfl, hv, e2⟩⟩
 | k + 1, M1, M2, i, cs, hk, hM1, hM2, hv => by
  obtain ⟨M1, rfl⟩ : ∃ m, M1 = m + 1 := ⟨M1 - 1, by omega⟩
  obtain ⟨M2, rfl⟩ : ∃ m, M2 = m + 1 := ⟨M2 - 1, by omega⟩
  rw [oE, oE];rcases one_line lines hs hn i (by omega) cs hv (itr (D1 lines) M1) (itr (u7 lines) M2) with ⟨cs', t, e1, e2, e3, e4, e5⟩ | ⟨cs', t, e1, e2, e3, e4, e5, e6⟩ | ⟨e1, e2⟩
  ·rw [e1, e2]; exact read_both lines hs hn k M1 M2 (i + 1) cs' (by omega) (by omega) (by omega) e3
  ·rw [e1, e2];obtain ⟨m, g1, g2⟩ := read_S lines hs hn k M1 (i + 1) cs' (by omega) (by omega) e3 e6;exact ⟨m, g1, .inr ⟨g2, rfl⟩⟩
  ·exact ⟨_, e1, .inr ⟨.inl rfl, e2⟩⟩
theorem isImg_notBad {m : PImage} {n : Int} (h : isImg m n = true) : ¬ Bad m.codes := by
 rintro ⟨c, hc, hb⟩;unfold isImg at h;simp only [Bool.and_eq_true] at h;have hk := h.2.2.2.2.1;obtain ⟨k, hk1, hk2⟩ := List.getElem_of_mem hc;unfold codesOK at hk;have h1 := List.all_eq_true.1 hk k (List.mem_range.2 hk1);rw [Bool.and_eq_true] at h1;have h2 := h1.1;unfold codeOKs at h2;rw [Bool.and_eq_true] at h2;obtain ⟨h3, h4⟩ := h2;have e : m.codes.getD k default = c := by simp [List.getD, List.getElem?_eq_getElem hk1, hk2]
 rw [e] at h3;rw [e] at h4;unfold headOK inside at h3;simp only [Bool.and_eq_true, decide_eq_true_eq] at h3;rcases hb with hb | hb | hb | ⟨x, hx, hb⟩
 ·omega
 ·omega
 ·omega
 ·have h5 := List.all_eq_true.1 h4 x hx;rw [Bool.and_eq_true] at h5;have h6 := h5.1;unfold instrOK inside at h6;simp only [Bool.and_eq_true, decide_eq_true_eq] at h6;omega
theorem wE {cs : List PCode} {n : Nat} (hv : Inv cs n) (hn : n ≤ 1048576) : (mIm cs).small ∧ wM (mIm cs) ≤ 130000000000 := by
 have hcl := dC cs;have key : ∀ cs : List PCode, (∀ c ∈ cs, numsOK c ∧ ∀ x ∈ c.instrs, wD x.d ≤ 120000) → (wts wC cs ≤ (linesT cs).length * 120001) ∧ ∀ c ∈ cs, c.instrs.length ≤ (linesT cs).length := by
  intro cs;induction cs with
  | nil => intro _; exact ⟨by simp [wts, wsum], fun c hc => by cases hc⟩
  | cons c r ih =>
   intro h;obtain ⟨i1, i2⟩ := ih fun q hq => h q (by simp [hq]);have hc := (h c (by simp)).2;have hw : ∀ xs : List PInstr, (∀ x ∈ xs, wD x.d ≤ 120000) → wts wI xs ≤ xs.length * 120001 := by
    intro xs;induction xs with
    | nil => intro _; simp [wts, wsum]
    | cons x r ih =>
     intro h;have e := ih fun y hy => h y (by simp [hy]);have h1 := h x (by simp);rw [nL];have : wI x = wD x.d := rfl;rw [List.length_cons];omega
   have h1 := hw c.instrs hc;have h2 : (codeT c).length = c.instrs.length + 1 := by unfold codeT; simp
   have h3 : wC c = wts wI c.instrs := rfl;rw [dX, List.length_append, h2];refine ⟨?_, fun q hq => ?_⟩
   ·rw [nL]; omega
   ·rcases List.mem_cons.1 hq with rfl | hq
    ·omega
    ·have := i2 q hq; omega
 obtain ⟨k1, k2⟩ := key cs hv.2;have hvl := hv.1;refine ⟨⟨by show cs.length ≤ _; omega, fun c hc => ⟨by have := k2 c hc; omega, fun x hx => uR (by have := (hv.2 c hc).2 x hx; omega)⟩⟩, ?_⟩;have : wM (mIm cs) = wts wC cs := rfl;omega
def ownR (cs : List PCode) : Bool := match cs.getLast? with
 | none => false
 | some c => isImg (mIm cs) c.captures
end Go.Abs

namespace Go.Abs
open PD
def mAll {α : Type} (M : Int → α → Int × α) : Int → List α → Int × List α
 | k, [] => (k, [])
 | k, x :: r => ((mAll M (M k x).1 r).1, (M k x).2 :: (mAll M (M k x).1 r).2)
theorem V2 {α : Type} (M : Int → α → Int × α) : ∀ (xs : List α) (k : Int), (mAll M k xs).2.length = xs.length
 | [], _ => rfl
 | x :: r, k => by simp [mAll, V2 M r]
theorem wts_nil {α : Type} (wt : α → Nat) : wts wt ([] : List α) = 0 := rfl
theorem oG {α : Type} {M : Int → α → Int × α} {wt : α → Nat} (hM : ∀ k x, k ≤ (M k x).1 ∧ (M k x).1 ≤ k + 6 * ((1 + wt x : Nat) : Int)) : ∀ (xs : List α) (k : Int), k ≤ (mAll M k xs).1 ∧ (mAll M k xs).1 ≤ k + 6 * ((wts wt xs : Nat) : Int)
 | [], k => by rw [wts_nil]; exact ⟨Int.le_refl _, by show k ≤ _; omega⟩
 | x :: r, k => by
  have h1 := hM k x;have h2 := oG hM r (M k x).1;rw [nL];unfold mAll;dsimp only;omega
theorem set_take {α : Type} {a : List α} {i : Nat} {y : α} (h : i < a.length) : (a.set i y).take (i + 1) = a.take i ++ [y] ∧ (a.set i y).drop (i + 1) = a.drop (i + 1) := by
 rw [List.set_eq_take_append_cons_drop, if_pos h];have e : (a.take i).length = i := by rw [List.length_take]; omega
 constructor
 ·rw [List.take_append, e, List.take_of_length_le (by omega)];simp
 ·rw [List.drop_append, e, List.drop_of_length_le (by omega)];simp
theorem mU {α : Type} {M : Int → α → Int × α} (wt : α → Nat) (S : α → Prop) (B : Int) {L : (Int × Int × List α → Option (Int × List α)) → Int × Int × List α → Option (Int × List α)}
 (hM : ∀ k x, k ≤ (M k x).1 ∧ (M k x).1 ≤ k + 6 * ((1 + wt x : Nat) : Int))
 (step : ∀ go (i : Nat) k (a : List α) (hi : i < a.length), a.length ≤ 130000000000 → S a[i] → 0 ≤ k → k + 6 * ((1 + wt a[i] : Nat) : Int) ≤ B → L go (k, (i : Int), a) = go ((M k a[i]).1, (i : Int) + 1, a.set i (M k a[i]).2))
 (fin : ∀ go k (a : List α), L go (k, (a.length : Int), a) = some (k, a))
 (xs : List α) (hS : ∀ x ∈ xs, S x) (hn : xs.length ≤ 130000000000) (k : Int) (h0 : 0 ≤ k) (hB : k + 6 * ((wts wt xs : Nat) : Int) ≤ B) : itr L LF (k, 0, xs) = some (mAll M k xs) := by
 refine (kW (L := L) (fun v => some ((mAll M v.1 (v.2.2.drop v.2.1.toNat)).1, v.2.2.take v.2.1.toNat ++ (mAll M v.1 (v.2.2.drop v.2.1.toNat)).2)) (fun v => (0 ≤ v.2.1 ∧ v.2.1 ≤ v.2.2.length) ∧ v.2.2.length ≤ 130000000000 ∧ (∀ x ∈ v.2.2.drop v.2.1.toNat, S x) ∧ 0 ≤ v.1 ∧ v.1 + 6 * ((wts wt (v.2.2.drop v.2.1.toNat) : Nat) : Int) ≤ B) (fun v => v.2.2.length - v.2.1.toNat) (fun go v hv hgo => ?_) (k, 0, xs) ⟨⟨Int.le_refl _, by show (0 : Int) ≤ (xs.length : Int); omega⟩, hn, by simpa using hS, h0, by simpa using hB⟩ (by show xs.length - 0 < _; omega)).trans (by simp);obtain ⟨k, j, a⟩ := v;obtain ⟨⟨h1, h2⟩, h3, h4, h5, h6⟩ := hv;simp only at h1 h2 h3 h4 h5 h6;obtain ⟨i, rfl⟩ := Int.eq_ofNat_of_zero_le h1;simp only [Int.ofNat_eq_natCast, Int.toNat_natCast] at *;by_cases hi : i < a.length
 ·rw [List.drop_eq_getElem_cons hi] at h4 h6 ⊢;rw [nL] at h6;have hm := hM k a[i];have hst := set_take (y := (M k a[i]).2) hi;rw [step go i k a hi h3 (h4 _ List.mem_cons_self) h5 (by omega)];refine (hgo ((M k a[i]).1, (i : Int) + 1, a.set i (M k a[i]).2) ⟨⟨by show (0 : Int) ≤ (i : Int) + 1; omega, by show (i : Int) + 1 ≤ ((a.set i _).length : Int); rw [List.length_set]; omega⟩, by show (a.set i _).length ≤ _; rw [List.length_set]; omega, ?_, by show 0 ≤ (M k a[i]).1; omega, ?_⟩ (by show (a.set i _).length - ((i : Int) + 1).toNat < _; rw [List.length_set]; omega)).trans ?_
  ·show ∀ x ∈ (a.set i _).drop ((i : Int) + 1).toNat, S x;rw [show ((i : Int) + 1).toNat = i + 1 by omega, hst.2];exact fun x hx => h4 x (List.mem_cons_of_mem _ hx)
  ·show (M k a[i]).1 + 6 * ((wts wt ((a.set i _).drop ((i : Int) + 1).toNat) : Nat) : Int) ≤ B;rw [show ((i : Int) + 1).toNat = i + 1 by omega, hst.2];omega
  ·show some ((mAll M (M k a[i]).1 ((a.set i _).drop ((i : Int) + 1).toNat)).1, (a.set i _).take ((i : Int) + 1).toNat ++ (mAll M (M k a[i]).1 ((a.set i _).drop ((i : Int) + 1).toNat)).2) = _;rw [show ((i : Int) + 1).toNat = i + 1 by omega, hst.2, hst.1, List.append_assoc];rfl
 ·have : i = a.length := by omega
  subst this;rw [fin, List.drop_length, List.take_length];simp [mAll]
theorem mO {α : Type} {M : Int → α → Int × α} (wt : α → Nat) (S : α → Prop) (B : Int) (a : List α) {L : (Int × Int → Option Int) → Int × Int → Option Int}
 (hM : ∀ k x, k ≤ (M k x).1 ∧ (M k x).1 ≤ k + 6 * ((1 + wt x : Nat) : Int))
 (step : ∀ go (i : Nat) k (hi : i < a.length) x, a[i] = (M k x).2 → S x → 0 ≤ k → k + 6 * ((1 + wt x : Nat) : Int) ≤ B → L go (k, (i : Int)) = go ((M k x).1, (i : Int) + 1))
 (fin : ∀ go k, L go (k, (a.length : Int)) = some k)
 (xs : List α) (hS : ∀ x ∈ xs, S x) (hn : xs.length ≤ 130000000000) (k : Int) (h0 : 0 ≤ k) (hB : k + 6 * ((wts wt xs : Nat) : Int) ≤ B) (ha : a = (mAll M k xs).2) : itr L LF (k, 0) = some (mAll M k xs).1 := by
 have hal : a.length = xs.length := by rw [ha, V2]
 refine kW (L := L) (fun _ => some (mAll M k xs).1) (fun v => (0 ≤ v.2 ∧ v.2 ≤ a.length) ∧ ∃ ys, a.drop v.2.toNat = (mAll M v.1 ys).2 ∧ (mAll M v.1 ys).1 = (mAll M k xs).1 ∧ (∀ x ∈ ys, S x) ∧ 0 ≤ v.1 ∧ v.1 + 6 * ((wts wt ys : Nat) : Int) ≤ B) (fun v => a.length - v.2.toNat) (fun go v hv hgo => ?_) (k, 0) ⟨⟨Int.le_refl _, by show (0 : Int) ≤ (a.length : Int); omega⟩, xs, by simpa using ha, rfl, hS, h0, hB⟩ (by show a.length - 0 < _; omega);obtain ⟨k1, j⟩ := v;obtain ⟨⟨h1, h2⟩, ys, g1, g2, g3, g4, g5⟩ := hv;simp only at h1 h2 g1 g2 g3 g4 g5;obtain ⟨i, rfl⟩ := Int.eq_ofNat_of_zero_le h1;simp only [Int.ofNat_eq_natCast, Int.toNat_natCast] at *;by_cases hi : i < a.length
 ·rw [List.drop_eq_getElem_cons hi] at g1;cases ys with
  | nil => simp [mAll] at g1; omega
  | cons y r =>
   have g2 : (mAll M (M k1 y).1 r).1 = (mAll M k xs).1 := g2;have g1 : a[i] :: a.drop (i + 1) = (M k1 y).2 :: (mAll M (M k1 y).1 r).2 := g1;simp only [List.cons.injEq] at g1;rw [nL] at g5;have hm := hM k1 y;rw [step go i k1 hi y g1.1 (g3 y (by simp)) g4 (by omega)];exact hgo ((M k1 y).1, (i : Int) + 1) ⟨⟨by show (0 : Int) ≤ (i : Int) + 1; omega, by show (i : Int) + 1 ≤ _; omega⟩, r, by show a.drop ((i : Int) + 1).toNat = _; rw [show ((i : Int) + 1).toNat = i + 1 by omega]; exact g1.2, g2, fun x hx => g3 x (by simp [hx]), by show 0 ≤ (M k1 y).1; omega, by show (M k1 y).1 + _ ≤ _; omega⟩ (by show a.length - ((i : Int) + 1).toNat < a.length - i; omega)
 ·have : i = a.length := by omega
  subst this;rw [fin];rw [List.drop_length] at g1;cases ys with
  | nil => rw [← g2]; rfl
  | cons y r => simp [mAll] at g1
def mI (k : Int) (_ : Int) : Int × Int := (k + 1, k)
theorem mI_le (k x : Int) : k ≤ (mI k x).1 ∧ (mI k x).1 ≤ k + 6 * ((1 + 0 : Nat) : Int) := by unfold mI; dsimp only; omega
theorem wts_0 {α : Type} (xs : List α) : wts (fun _ => 0) xs = xs.length := by
 induction xs with
 | nil => rfl
 | cons x r ih => rw [nL, ih]; simp; omega
theorem wN (xs : List Int) (k : Int) (hn : xs.length ≤ 130000000000) (h0 : 0 ≤ k) (h1 : k + 6 * (xs.length : Int) ≤ 1000000000000) : cZ xs k = some (mAll mI k xs) := by
 unfold cZ;refine mU (L := kA) (fun _ => 0) (fun _ => True) 1000000000000 (fun k x => mI_le k x) (fun go i k a hi ha _ h0 h1 => ?_) (fun go k a => ?_) xs (fun _ _ => trivial) hn k h0 (by rw [wts_0]; exact h1)
 ·show N0 go k i a = _;unfold N0;rw [if_pos (by omega), o9 hi, f7, j5 (by omega), j5 (by omega), Int.toNat_natCast]; rfl
 ·show N0 go k _ a = _;unfold N0;rw [if_neg (by omega)]
def mtz (k : Int) : List UInt8 := (I3 k).getD []
theorem fC {k : Int} (h : k ≤ 4611686018427387904) : I3 k = some (mtz k) := by
 obtain ⟨t, ht⟩ := pY k h;unfold mtz; rw [ht]; rfl
mutual
def mD : Int → PD → Int × PD
 | k, .mk _ _ _ is => ((mDs (k + 1 + 1 + 1) is).1, .mk k (k + 1) (mtz (k + 1 + 1)) (mDs (k + 1 + 1 + 1) is).2)
def mDs : Int → List PD → Int × List PD
 | k, [] => (k, [])
 | k, d :: r => ((mDs (mD k d).1 r).1, (mD k d).2 :: (mDs (mD k d).1 r).2)
end
theorem mDs_eq : ∀ (ds : List PD) (k : Int), mDs k ds = mAll mD k ds
 | [], _ => by unfold mDs mAll; rfl
 | d :: r, k => by unfold mDs mAll; rw [mDs_eq r]
theorem mD_eq (k : Int) (d : PD) : mD k d = ((mAll mD (k + 1 + 1 + 1) d.items).1, .mk k (k + 1) (mtz (k + 1 + 1)) (mAll mD (k + 1 + 1 + 1) d.items).2) := by
 cases d; unfold mD; rw [mDs_eq]; rfl
theorem mD_le : (∀ d : PD, ∀ k, k ≤ (mD k d).1 ∧ (mD k d).1 ≤ k + 6 * ((1 + wD d : Nat) : Int)) ∧ ∀ ds : List PD, ∀ k, k ≤ (mAll mD k ds).1 ∧ (mAll mD k ds).1 ≤ k + 6 * ((wDs ds : Nat) : Int) := by
 refine PD.ind (fun ds h k => ?_) (fun d h k => ?_)
 ·induction ds generalizing k with
  | nil => exact ⟨Int.le_refl _, by show k ≤ _; omega⟩
  | cons x r ih =>
   have h1 := h x (by simp) k;have h2 := ih (fun y hy => h y (by simp [hy])) (mD k x).1;unfold wDs mAll;dsimp only;omega
 ·have h1 := h (k + 1 + 1 + 1);have h2 := rI d;rw [mD_eq];dsimp only;omega
theorem pX : ∀ (n : Nat) (ds : List PD) (k : Int), PD.cnts ds < n → wDs ds ≤ 130000000000 → 0 ≤ k → k + 6 * ((wDs ds : Nat) : Int) ≤ 1000000000000 → s6 n ds k = some (mAll mD k ds)
 | 0, ds, k, h, _, _, _ => by omega
 | n + 1, ds, k, h, hc, h0, h1 => by
  show W5 (s6 n) ds k = _;unfold W5;have hl := PD.cnts_len ds;have hw := zQ.2 ds;refine mU (L := eV (s6 n)) wD (fun x => wD x ≤ 130000000000 ∧ x.cnt < n) 1000000000000 (fun k x => mD_le.1 x k) (fun go i k1 a hi ha hx hk hB => ?_) (fun go k1 a => ?_) ds (fun x hx => ⟨by have := oX hx; omega, by have := PD.cnts_mem hx; omega⟩) (by omega) k h0 (by rw [← wDs_eq]; exact h1)
  ·show F7 (s6 n) go k1 (i : Int) a = _;unfold F7;have hwi := rI a[i];have hci := PD.cnt_eq a[i];simp only [Int.toNat_natCast, List.set_set];rw [if_pos (by omega), o9 hi, f7, j5 (by omega), dY hi, f7, j5 (by omega), fC (by omega), f7, dY hi, f7, j5 (by omega), dY hi, f7];try simp only [qB, wO, kX, wP]
   rw [pX n a[i].items (k1 + 1 + 1 + 1) (by omega) (by omega) (by omega) (by omega), f7];refine (j5 (V2 mD a[i].items _)).trans ((j5 (by omega)).trans ?_);rw [mD_eq]
  ·show F7 (s6 n) go k1 _ a = _;unfold F7;rw [if_neg (by omega)]
theorem pL : ∀ (n : Nat) (ds : List PD) (k : Int), PD.cnts ds < n → wDs ds ≤ 130000000000 → 0 ≤ k → k + 6 * ((wDs ds : Nat) : Int) ≤ 1000000000000 → s5 n (mAll mD k ds).2 k = some (mAll mD k ds).1
 | 0, ds, k, h, _, _, _ => by omega
 | n + 1, ds, k, h, hc, h0, h1 => by
  show W4 (s5 n) (mAll mD k ds).2 k = _;unfold W4;have hl := PD.cnts_len ds;have hw := zQ.2 ds;have hal : (mAll mD k ds).2.length = ds.length := V2 _ _ _;refine mO (L := eS (s5 n) (mAll mD k ds).2) wD (fun x => wD x ≤ 130000000000 ∧ x.cnt < n) 1000000000000 (mAll mD k ds).2 (fun k x => mD_le.1 x k) (fun go i k1 hi x hx hS hk hB => ?_) (fun go k1 => ?_) ds (fun x hx => ⟨by have := oX hx; omega, by have := PD.cnts_mem hx; omega⟩) (by omega) k h0 (by rw [← wDs_eq]; exact h1) rfl
  ·show F5 (s5 n) (mAll mD k ds).2 go k1 (i : Int) = _;unfold F5;have hwi := rI x;have hci := PD.cnt_eq x;have hle := mD_le.2 x.items (k1 + 1 + 1 + 1);rw [mD_eq] at hx;rw [if_pos (by omega), o9 hi, hx];simp only [f7, qB, wO, kX, wP];rw [if_pos trivial, j5 (by omega), if_pos trivial, j5 (by omega), fC (by omega), f7];refine (if_pos rfl).trans ?_;rw [j5 (by omega), pL n x.items (k1 + 1 + 1 + 1) (by omega) (by omega) (by omega) (by omega), f7, if_neg (by omega), j5 (by omega), mD_eq]
  ·show F5 (s5 n) (mAll mD k ds).2 go k1 _ = _;unfold F5;rw [if_neg (by omega)]
def mN (k : Int) (x : PInstr) : Int × PInstr := ((mAll mD (k + 1 + 1 + 1 + 1 + 1) x.d.items).1, PInstr.mk k (k + 1) (PD.mk (k + 1 + 1) (k + 1 + 1 + 1) (mtz (k + 1 + 1 + 1 + 1)) (mAll mD (k + 1 + 1 + 1 + 1 + 1) x.d.items).2))
theorem mN_le (k : Int) (x : PInstr) : k ≤ (mN k x).1 ∧ (mN k x).1 ≤ k + 6 * ((1 + wI x : Nat) : Int) := by
 have h := mD_le.2 x.d.items (k + 1 + 1 + 1 + 1 + 1);have h2 := rI x.d;have h3 : wI x = wD x.d := rfl;unfold mN;dsimp only;omega
def mC (k : Int) (c : PCode) : Int × PCode := ((mAll mN (k + 1 + 1 + 1) c.instrs).1, PCode.mk k (k + 1) (k + 1 + 1) (mAll mN (k + 1 + 1 + 1) c.instrs).2)
theorem mC_le (k : Int) (c : PCode) : k ≤ (mC k c).1 ∧ (mC k c).1 ≤ k + 6 * ((1 + wC c : Nat) : Int) := by
 have h := oG mN_le c.instrs (k + 1 + 1 + 1);have h3 : wC c = wts wI c.instrs := rfl;unfold mC;dsimp only;omega
theorem mInstrS_eq (xs : List PInstr) (k : Int) (hw : wts wI xs ≤ 130000000000) (h0 : 0 ≤ k) (h1 : k + 6 * ((wts wI xs : Nat) : Int) ≤ 1000000000000) : bY xs k = some (mAll mN k xs) := by
 unfold bY;have hlen : xs.length ≤ wts wI xs := by unfold wts; omega
 have hws : wts wI xs = xs.length + wsum wI xs := rfl;refine mU (L := eX xs) wI (fun x => wD x.d ≤ 130000000000) 1000000000000 (fun k x => mN_le k x) (fun go i k1 a hi ha hx hk hB => ?_) (fun go k1 a => ?_) xs (fun x hx => by
  have := rN (wt := wI) hx;have e : wI x = wD x.d := rfl;omega) (by omega) k h0 h1
 ·show F8 xs go k1 (i : Int) a = _;unfold F8;have hwi : wI a[i] = wD a[i].d := rfl;have hwd := rI a[i].d;have hcc := zQ.2 a[i].d.items;simp only [Int.toNat_natCast, List.set_set];rw [if_pos (by omega), o9 hi, f7, j5 (by omega), dY hi, f7, j5 (by omega), dY hi, f7, j5 (by omega), dY hi, f7, j5 (by omega), fC (by omega), f7, dY hi, f7, j5 (by omega), dY hi, f7];try simp only [qB, wO, kX, wP]
  rw [pX RF a[i].d.items (k1 + 1 + 1 + 1 + 1 + 1) (by rw [RF_eq]; omega) (by omega) (by omega) (by omega), f7];refine (j5 (V2 mD a[i].d.items _)).trans ((j5 (by omega)).trans ?_);rfl
 ·show F8 xs go k1 _ a = _;unfold F8;rw [if_neg (by omega)]
theorem hInstrS_eq (xs : List PInstr) (k : Int) (hw : wts wI xs ≤ 130000000000) (h0 : 0 ≤ k) (h1 : k + 6 * ((wts wI xs : Nat) : Int) ≤ 1000000000000) : bX (mAll mN k xs).2 k = some (mAll mN k xs).1 := by
 unfold bX;have hlen : xs.length ≤ wts wI xs := by unfold wts; omega
 have hws : wts wI xs = xs.length + wsum wI xs := rfl;have hal : (mAll mN k xs).2.length = xs.length := V2 _ _ _;refine mO (L := eT (mAll mN k xs).2) wI (fun x => wD x.d ≤ 130000000000) 1000000000000 (mAll mN k xs).2 (fun k x => mN_le k x) (fun go i k1 hi x hx hS hk hB => ?_) (fun go k1 => ?_) xs (fun x hx => by
  have := rN (wt := wI) hx;have e : wI x = wD x.d := rfl;omega) (by omega) k h0 h1 rfl
 ·show F6 (mAll mN k xs).2 go k1 (i : Int) = _;unfold F6;have hwi : wI x = wD x.d := rfl;have hwd := rI x.d;have hcc := zQ.2 x.d.items;have hle := mD_le.2 x.d.items (k1 + 1 + 1 + 1 + 1 + 1);have hx : (mAll mN k xs).2[i] = PInstr.mk k1 (k1 + 1) (PD.mk (k1 + 1 + 1) (k1 + 1 + 1 + 1) (mtz (k1 + 1 + 1 + 1 + 1)) (mAll mD (k1 + 1 + 1 + 1 + 1 + 1) x.d.items).2) := hx;rw [if_pos (by omega), o9 hi, hx];simp only [f7, qB, wO, kX, wP];rw [if_pos trivial, j5 (by omega), if_pos trivial, j5 (by omega), if_pos trivial, j5 (by omega), if_pos trivial, j5 (by omega), fC (by omega), f7];refine (if_pos rfl).trans ?_;rw [j5 (by omega), pL RF x.d.items (k1 + 1 + 1 + 1 + 1 + 1) (by rw [RF_eq]; omega) (by omega) (by omega) (by omega), f7, if_neg (by omega), j5 (by omega)];rfl
 ·show F6 (mAll mN k xs).2 go k1 _ = _;unfold F6;rw [if_neg (by omega)]
theorem mCodeS_eq (xs : List PCode) (k : Int) (hw : wts wC xs ≤ 130000000000) (h0 : 0 ≤ k) (h1 : k + 6 * ((wts wC xs : Nat) : Int) ≤ 1000000000000) : eU xs k = some (mAll mC k xs) := by
 unfold eU;have hlen : xs.length ≤ wts wC xs := by unfold wts; omega
 have hws : wts wC xs = xs.length + wsum wC xs := rfl;refine mU (L := gD) wC (fun x => wC x ≤ 130000000000) 1000000000000 (fun k x => mC_le k x) (fun go i k1 a hi ha hx hk hB => ?_) (fun go k1 a => ?_) xs (fun x hx => by
  have := rN (wt := wC) hx;omega) (by omega) k h0 h1
 ·show J4 go k1 (i : Int) a = _;unfold J4;have hwi : wC a[i] = wts wI a[i].instrs := rfl;simp only [Int.toNat_natCast, List.set_set];rw [if_pos (by omega), o9 hi, f7, j5 (by omega), dY hi, f7, j5 (by omega), dY hi, f7, j5 (by omega), dY hi, f7];try simp only [qB, wO, kX, wP]
  rw [mInstrS_eq a[i].instrs (k1 + 1 + 1 + 1) (by omega) (by omega) (by omega), f7];refine (j5 (V2 mN a[i].instrs _)).trans ((j5 (by omega)).trans ?_);rfl
 ·show J4 go k1 _ a = _;unfold J4;rw [if_neg (by omega)]
theorem hCodeS_eq (xs : List PCode) (k : Int) (hw : wts wC xs ≤ 130000000000) (h0 : 0 ≤ k) (h1 : k + 6 * ((wts wC xs : Nat) : Int) ≤ 1000000000000) : eR (mAll mC k xs).2 k = some (mAll mC k xs).1 := by
 unfold eR;have hlen : xs.length ≤ wts wC xs := by unfold wts; omega
 have hws : wts wC xs = xs.length + wsum wC xs := rfl;have hal : (mAll mC k xs).2.length = xs.length := V2 _ _ _;refine mO (L := gB (mAll mC k xs).2) wC (fun x => wC x ≤ 130000000000) 1000000000000 (mAll mC k xs).2 (fun k x => mC_le k x) (fun go i k1 hi x hx hS hk hB => ?_) (fun go k1 => ?_) xs (fun x hx => by
  have := rN (wt := wC) hx;omega) (by omega) k h0 h1 rfl
 ·show J3 (mAll mC k xs).2 go k1 (i : Int) = _;unfold J3;have hwi : wC x = wts wI x.instrs := rfl;have hle := oG mN_le x.instrs (k1 + 1 + 1 + 1);have hx : (mAll mC k xs).2[i] = PCode.mk k1 (k1 + 1) (k1 + 1 + 1) (mAll mN (k1 + 1 + 1 + 1) x.instrs).2 := hx;rw [if_pos (by omega), o9 hi, hx];simp only [f7];rw [if_pos trivial, j5 (by omega), if_pos trivial, j5 (by omega), if_pos trivial, j5 (by omega), hInstrS_eq x.instrs (k1 + 1 + 1 + 1) (by omega) (by omega) (by omega), f7, if_neg (by omega), j5 (by omega)];rfl
 ·show J3 (mAll mC k xs).2 go k1 _ = _;unfold J3;rw [if_neg (by omega)]
end Go.Abs

namespace Go.Abs
def isShort (s : LB) : Bool := isSymbol s && decide (s.length ≤ 8)
theorem s_l7Name_eq (s : LB) (h : SM s) : rA s = some (isShort s) := by
 unfold rA isShort;rw [aG s h, f7];by_cases h8 : s.length ≤ 8
 ·rw [if_pos (by omega), decide_eq_true h8]; simp
 ·rw [if_neg (by omega), decide_eq_false h8]; simp
theorem tR (s : LB) (h : SM s) : aC s = some (isShort s) := by
 unfold aC isShort;rw [iU s h, f7];cases isSymbol s
 ·simp
 ·simp only [if_true, Bool.true_and];exact congrArg some (decide_eq_decide.2 (by omega))
theorem af2 (l : LI) (x : Int) (h : l.length ≤ 4611686018427387904) : gX l x = some (l.any fun y => decide (y = x)) := by
 unfold gX;rw [fQ (L := jG l x) l.length (fun i => some ((l.drop i).any fun y => decide (y = x))) (by omega) (fun go i hi hgo => ?_) (fun go => ?_)]
 ·rfl
 ·show M3 l x go (i : Int) = _;unfold M3;rw [if_pos (by omega), o9 hi, f7, j5 (by omega), hgo, List.drop_eq_getElem_cons hi, List.any_cons];by_cases e : l[i] = x
  ·rw [if_pos e, decide_eq_true e]; simp
  ·rw [if_neg e, decide_eq_false e]; simp
 ·show M3 l x go (l.length : Int) = _;unfold M3;rw [if_neg (by omega), List.drop_length]; rfl
def uniqs : LI → LI → Bool
 | _, [] => true
 | seen, x :: r => inside x 0 99999 && (!(seen.any fun y => decide (y = x)) && uniqs (seen ++ [x]) r)
theorem ag1 (l : LI) (h : l.length ≤ 4611686018427387904) : iB l = some (uniqs [] l) := by
 unfold iB;rw [fQ (L := jS l) l.length (fun i => some (uniqs (l.take i) (l.drop i))) (by omega) (fun go i hi hgo => ?_) (fun go => ?_)]
 ·rfl
 ·show M8 l go (i : Int) = _;unfold M8;rw [if_pos (by omega), o9 hi, f7, bU, f7, j5 (by omega), Int.toNat_natCast, af2 _ _ (by simp; omega), f7, j5 (by omega), hgo, List.drop_eq_getElem_cons hi, uniqs, ← List.take_append_getElem hi];cases inside l[i] 0 99999 <;> cases (l.take i).any (fun y => decide (y = l[i])) <;> simp
 ·show M8 l go (l.length : Int) = _;unfold M8;rw [if_neg (by omega), List.drop_length]; rfl
end Go.Abs

namespace Go.Abs
theorem mget_mput (m : MI) (k v j : Int) : mget (mput m k v) j = if j = k then v else mget m j := by
 unfold mget;induction m with
 | nil =>
  unfold mput mlook;by_cases h : j = k
  ·simp [h]
  ·simp [h, mlook]
 | cons p r ih =>
  unfold mput;by_cases h : k = p.1
  ·rw [if_pos h];unfold mlook;by_cases h2 : j = k
   ·rw [if_pos h2, if_pos h2]; rfl
   ·rw [if_neg h2, if_neg h2, if_neg (by omega)]
  ·rw [if_neg h];unfold mlook;by_cases h2 : j = p.1
   ·rw [if_pos h2, if_pos h2, if_neg (by omega)]
   ·rw [if_neg h2, if_neg h2, ih]
def Knows (seen : LI) (m : MI) : Prop := ∀ k, decide (mget m k = 1) = seen.any fun y => decide (y = k)
theorem knows_nil : Knows [] [] := fun k => by simp [mget, mlook]
theorem knows_put {seen : LI} {m : MI} (h : Knows seen m) (x : Int) : Knows (seen ++ [x]) (mput m x 1) := fun k => by
 rw [mget_mput, List.any_append];simp only [List.any_cons, List.any_nil, Bool.or_false];by_cases e : k = x
 ·subst e; simp
 ·rw [if_neg e, h k, decide_eq_false (fun h => e h.symm)]; simp
theorem tM : ∀ (a b seen : LI), uniqs seen (a ++ b) = (uniqs seen a && uniqs (seen ++ a) b)
 | [], b, seen => by simp [uniqs]
 | x :: a, b, seen => by
  simp only [List.cons_append, uniqs];rw [tM a b (seen ++ [x])];simp [Bool.and_assoc]
theorem zR (x2 : Int) (go4 : Int × MI → Option Bool) (l : LI) (hl : l.length ≤ 4611686018427387904) (hx : 0 ≤ x2 ∧ x2 ≤ 100) (y : Option Bool) (seen : LI) (hgo : ∀ m, Knows (seen ++ l) m → go4 (x2 + 1, m) = y) {m : MI} (hm : Knows seen m) :
 itr (G6 x2 go4 l) LF (0, m) = if uniqs seen l = true then y else some false := by
 have := K2 (L := G6 x2 go4 l) l.length (fun i m => Knows (seen ++ l.take i) m) (fun i _ => if uniqs (seen ++ l.take i) (l.drop i) = true then y else some false) (by omega) (a := m) (fun go i m hi hI hgo => ?_) (fun go m hI => ?_) (by simpa using hm)
 ·simpa using this
 ·show u9 x2 go4 l go (i : Int) m = _;unfold u9;rw [if_pos (by omega), o9 hi, f7, List.drop_eq_getElem_cons hi, uniqs];have hk := hI l[i];have hI' : Knows (seen ++ l.take (i + 1)) (mput m l[i] 1) := by
   rw [← List.take_append_getElem hi, ← List.append_assoc]; exact knows_put hI _
  have hin : inside l[i] 0 99999 = (!decide (l[i] < 0) && !decide (l[i] > 99999)) := by
   unfold inside;rw [Bool.eq_iff_iff]; simp; try omega
  rw [j5 (by omega), hgo _ hI', ← hk, hin, ← List.take_append_getElem hi, ← List.append_assoc];by_cases h1 : l[i] < 0
  ·rw [if_pos h1, decide_eq_true h1]; simp
  ·rw [if_neg h1, decide_eq_false h1];by_cases h2 : l[i] > 99999
   ·rw [if_pos h2, decide_eq_true h2]; simp
   ·rw [if_neg h2, decide_eq_false h2];by_cases h3 : mget m l[i] = 1
    ·rw [if_pos h3, decide_eq_true h3]; simp
    ·rw [if_neg h3, decide_eq_false h3]; simp
 ·show u9 x2 go4 l go (l.length : Int) m = _;unfold u9;rw [if_neg (by omega), List.drop_length, j5 (by omega), uniqs, if_pos rfl];rw [List.take_length] at hI;exact hgo _ hI
theorem gP (a b : LI) (ha : a.length ≤ 1048576) (hb : b.length ≤ 1048576) : G2 [a, b] = some (uniqs [] (a ++ b)) := by
 unfold G2;have h3 : ∀ m, ∀ n, itr (w4 [a, b]) (n + 1) (2, m) = some true := fun m n => by
  show q9 [a, b] (itr (w4 [a, b]) n) 2 m = _;unfold q9;rw [if_neg (by simp)]
 have h2 : ∀ m, Knows a m → ∀ n, itr (w4 [a, b]) (n + 2) (1, m) = some (uniqs a b) := fun m hm n => by
  show q9 [a, b] (itr (w4 [a, b]) (n + 1)) 1 m = _;unfold q9;rw [if_pos (by simp), show nth [a, b] 1 = some b from rfl, f7];rw [zR 1 _ b (by omega) (by omega) (some true) a (fun m' _ => h3 m' n) hm];cases uniqs a b <;> rfl
 obtain ⟨k, hk⟩ : ∃ k, LF = k + 3 := ⟨LF - 3, by have := LF_eq; omega⟩
 rw [hk];show q9 [a, b] (itr (w4 [a, b]) (k + 2)) 0 [] = _;unfold q9;rw [if_pos (by simp), nth_0, f7];rw [zR 0 _ a (by omega) (by omega) (some (uniqs a b)) [] (fun m' hm' => h2 m' (by simpa using hm') _) knows_nil, tM, List.nil_append];cases uniqs [] a <;> simp
def PObj.small (o : PObj) : Prop := o.name.length ≤ 1048576 ∧ o.defines.length ≤ 1048576 ∧ o.uses.length ≤ 1048576 ∧ o.image.small
theorem vP (xs : LI) (h : xs.length ≤ 1048576) : nI xs xs = some true := by
 unfold nI;exact eqS_refl' (L := oY xs xs) xs h (fun go i => rfl)
theorem eqObject_eq (o : PObj) (h : o.small) : aY o o = some true := by
 unfold aY;rw [if_pos rfl, vP _ h.2.1, f7, if_pos rfl, vP _ h.2.2.1, f7, if_pos rfl, eqImage_eq _ h.2.2.2, f7, if_pos rfl]
theorem l2Ints_eq (xs : LI) (h : xs.length ≤ 1048576) : qZ xs = some xs := by
 unfold qZ;rw [j5 (by simp; omega)]; rfl
def isObj (o : PObj) : Bool := isShort o.name && (uniqs [] (o.defines ++ o.uses) && isImg o.image ((o.defines.length : Int) + o.uses.length))
theorem af4 (o : PObj) (h : o.small) (hs : SM o.name) : gZ o = some (isObj o) := by
 unfold gZ isObj;rw [l2Ints_eq _ h.2.1, f7, j5 (by have := h.2.1; have := h.2.2.1; omega), s_l7Name_eq _ hs, f7, ag1 _ (by have := h.2.1; have := h.2.2.1; simp; omega), s_IsImage_eq _ h.2.2.2];simp only [f7, List.length_append, Int.natCast_add];cases isShort o.name <;> cases uniqs [] (o.defines ++ o.uses) <;> simp
theorem ad1 (o : PObj) (h : o.small) (hs : SM o.name) : gM o = some (isObj o) := by
 unfold gM isObj;rw [tR _ hs, f7, gP _ _ h.2.1 h.2.2.1, j5 (by have := h.2.1; have := h.2.2.1; omega), sV _ h.2.2.2];simp only [f7];cases isShort o.name <;> cases uniqs [] (o.defines ++ o.uses) <;> simp
end Go.Abs

namespace Go.Abs
open Go.Lib (itoa)
def wordT (w : LB) (l : LI) : LB := l.foldl (fun w n => w ++ ([32] ++ itoa n)) w
theorem isShort_len {s : LB} (h : isShort s = true) : s.length ≤ 8 := by
 unfold isShort at h;simp only [Bool.and_eq_true, decide_eq_true_eq] at h;exact h.2
def numsIn (l : LI) : Prop := ∀ n ∈ l, -999999999 ≤ n ∧ n ≤ 999999999
theorem uT : ∀ (l seen : LI), uniqs seen l = true → numsIn l
 | [], _, _ => fun n h => by cases h
 | x :: r, seen, h => fun n hn => by
  rw [uniqs, Bool.and_eq_true, Bool.and_eq_true] at h;rcases List.mem_cons.1 hn with rfl | hn
  ·have := h.1;unfold inside at this;simp only [Bool.and_eq_true, decide_eq_true_eq] at this;omega
  ·exact uT r _ h.2.2 n hn
theorem yF (l : LI) (w : LB) (h : numsIn l) (i : Nat) : (wordT w (l.take i)).length ≤ w.length + 11 * (l.take i).length := by
 have key : ∀ (l : LI) (w : LB), numsIn l → (wordT w l).length ≤ w.length + 11 * l.length := by
  intro l;induction l with
  | nil => intro w _; simp [wordT]
  | cons x r ih =>
   intro w h;have h1 := ih (w ++ ([32] ++ itoa x)) fun n hn => h n (by simp [hn]);have h2 := bC x (h x (by simp));show (wordT (w ++ ([32] ++ itoa x)) r).length ≤ _;simp only [List.length_append, List.length_cons, List.length_nil] at h1 ⊢;omega
 exact key _ w fun n hn => h n (List.mem_of_mem_take hn)
theorem sP (w : LB) (l : LI) (i : Nat) (h : i < l.length) : wordT w (l.take (i + 1)) = wordT w (l.take i) ++ ([32] ++ itoa l[i]) := by
 unfold wordT;rw [List.take_add_one, List.getElem?_eq_getElem h, List.foldl_append]; rfl
theorem wF {A R : Type} {L : (A × Int → Option R) → A × Int → Option R} (n : Nat) (f : Nat → A) (Y : Option R) (hn : n ≤ 9223372036854775807)
 (step : ∀ go (i : Nat), i < n → go (f (i + 1), (i : Int) + 1) = Y → L go (f i, (i : Int)) = Y) (fin : ∀ go, L go (f n, (n : Int)) = Y) : itr L LF (f 0, 0) = Y := by
 refine kW (L := L) (fun _ => Y) (fun v => ∃ i : Nat, i ≤ n ∧ v = (f i, (i : Int))) (fun v => n - v.2.toNat) (fun go v hv hgo => ?_) _ ⟨0, Nat.zero_le _, rfl⟩ (by show n - (0 : Int).toNat < _; have := LF_eq; omega);obtain ⟨i, hi, rfl⟩ := hv;by_cases h : i < n
 ·exact step go i h (hgo (f (i + 1), (i : Int) + 1) ⟨i + 1, h, by simp⟩ (by show n - ((i : Int) + 1).toNat < n - (i : Int).toNat; omega))
 ·have : i = n := by omega
  subst this; exact fin go
theorem zW (w : LB) (l : LI) (h : numsIn l) (hl : l.length ≤ 1048576) (hw : w.length ≤ 100) : J7 w l = some (wordT w l) := by
 unfold J7;refine wF (L := X7 l) l.length (fun i => wordT w (l.take i)) (some (wordT w l)) (by omega) (fun go i hi hgo => ?_) (fun go => ?_)
 ·show A8 l go _ (i : Int) = _;unfold A8;have hn := h _ (List.getElem_mem hi);have h1 := bC _ hn;have h2 := yF l w h i;rw [List.length_take] at h2;rw [if_pos (by omega), o9 hi, f7, N8 _ hn, f7, j5 (by simp; omega), j5 (by simp; omega), j5 (by omega), ← sP w l i hi];exact hgo
 ·show A8 l go _ _ = _;unfold A8;rw [if_neg (by omega)];show some (wordT w (l.take l.length)) = _;rw [List.take_length]
def wdD : LB := [100, 101, 102, 105, 110, 101, 115]
def wdU : LB := [117, 115, 101, 115]
def headO (o : PObj) : LL := [([111, 98, 106, 101, 99, 116, 32] : LB) ++ o.name, wordT wdD o.defines, wordT wdU o.uses]
theorem tG (o : PObj) (h1 : numsIn o.defines) (h2 : numsIn o.uses) (ho : o.small) : hU o = some (headO o) := by
 unfold hU;have l0 := ho.1;have l1 := ho.2.1;have l2 := ho.2.2.1;have hin : itr (bQ o (wordT wdD o.defines)) LF (wdU, 0) = some (headO o) := by
  refine wF (L := bQ o (wordT wdD o.defines)) o.uses.length (fun i => wordT wdU (o.uses.take i)) (some (headO o)) (by omega) (fun go i hi hgo => ?_) (fun go => ?_)
  ·show Q5 o _ go _ (i : Int) = _;unfold Q5;have hn := h2 _ (List.getElem_mem hi);have h3 := bC _ hn;have h4 := yF o.uses wdU h2 i;rw [List.length_take] at h4;have h5 : wdU.length = 4 := rfl;rw [if_pos (by omega), o9 hi, f7, j5 (by simp; omega), D7 _ hn, f7, j5 (by simp; omega), j5 (by omega), List.append_assoc, ← sP wdU o.uses i hi];exact hgo
  ·show Q5 o _ go _ _ = _;unfold Q5;rw [if_neg (by omega), j5 (by simp; omega)];show some [_, _, wordT wdU (o.uses.take o.uses.length)] = _;rw [List.take_length]; rfl
 refine wF (L := lL o) o.defines.length (fun i => wordT wdD (o.defines.take i)) (some (headO o)) (by omega) (fun go i hi hgo => ?_) (fun go => ?_)
 ·show Q4 o go _ (i : Int) = _;unfold Q4;have hn := h1 _ (List.getElem_mem hi);have h3 := bC _ hn;have h4 := yF o.defines wdD h1 i;rw [List.length_take] at h4;have h5 : wdD.length = 7 := rfl;rw [if_pos (by omega), o9 hi, f7, j5 (by simp; omega), D7 _ hn, f7, j5 (by simp; omega), j5 (by omega), List.append_assoc, ← sP wdD o.defines i hi];exact hgo
 ·show Q4 o go _ _ = _;unfold Q4;rw [if_neg (by omega)];show itr (bQ o (wordT wdD (o.defines.take o.defines.length))) LF (wdU, 0) = _;rw [List.take_length];exact hin
theorem tC : ∀ (cs : List PCode) (n : Int), cs.foldl (fun n c => n + (c.instrs.length : Int)) n = n + ((linesT cs).length : Int) - (cs.length : Int)
 | [], n => by simp [linesT]
 | c :: r, n => by
  have h := tC r (n + (c.instrs.length : Int));have hc : (codeT c).length = 1 + c.instrs.length := by unfold codeT; simp; omega
  rw [List.foldl_cons, h, dX, List.length_append, hc, List.length_cons];omega
theorem mS {m : PImage} {n : Int} (h : isImg m n = true) : (linesT m.codes).length ≤ 17500 := by
 unfold isImg inside at h;simp only [Bool.and_eq_true, decide_eq_true_eq] at h;have h1 := h.1.2;have h2 := h.2.2.2.2.2.1;have h3 := tC m.codes 0;unfold totalOf at h2;omega
end Go.Abs

namespace Go.Abs
open Go.Lib (itoa)
theorem yE : ∀ (l : List Int) (a b : List UInt8), wordT (a ++ b) l = a ++ wordT b l
 | [], a, b => rfl
 | x :: r, a, b => by
  show wordT ((a ++ b) ++ ([32] ++ itoa x)) r = a ++ wordT (b ++ ([32] ++ itoa x)) r;rw [List.append_assoc, yE r]
def nums5 (l : List Int) : Prop := ∀ n ∈ l, 0 ≤ n ∧ n ≤ 999999999
theorem aa8 : ∀ (l seen : List Int), uniqs seen l = true → nums5 l
 | [], _, _ => fun n h => by cases h
 | x :: r, seen, h => fun n hn => by
  rw [uniqs, Bool.and_eq_true, Bool.and_eq_true] at h;rcases List.mem_cons.1 hn with rfl | hn
  ·have := h.1;unfold inside at this;simp only [Bool.and_eq_true, decide_eq_true_eq] at this;omega
  ·exact aa8 r _ h.2.2 n hn
theorem spl_wordT : ∀ (l : List Int) (w : List UInt8), (∀ b ∈ w, b ≠ 32) → nums5 l → spl (wordT w l) = w :: l.map itoa
 | [], w, h, _ => spl_one h
 | x :: r, w, h, hn => by
  have e : wordT w (x :: r) = w ++ 32 :: wordT (itoa x) r := by
   show wordT (w ++ ([32] ++ itoa x)) r = _;rw [yE, yE]; rfl
  rw [e, uS h, spl_wordT r (itoa x) (pV (hn x (by simp))) (fun n hm => hn n (by simp [hm]))]; rfl
theorem words_wordT (l : List Int) (w : List UInt8) (h : ∀ b ∈ w, b ≠ 32) (hn : nums5 l) : (words (wordT w l)).1 = w ∧ rst (wordT w l) = l.map itoa := by
 have e := lU (wordT w l);rw [spl_wordT l w h hn] at e;injection e with a b
 exact ⟨a.symm, b.symm⟩
theorem numR_word (l : List Int) (hn : nums5 l) : numR (l.map itoa) [] = (l, true) := by
 rw [ae5 _ _ (fun p hp => by
  obtain ⟨n, h1, rfl⟩ := List.mem_map.1 hp;exact (fD (hn n h1)).1), List.map_map, List.nil_append]
 have e : l.map ((fun p => (numS p).1) ∘ itoa) = l := by
  have : l.map ((fun p => (numS p).1) ∘ itoa) = l.map id := List.map_congr_left fun n h => (fD (hn n h)).2;rw [this, List.map_id]
 rw [e]
theorem words_cut {w : List UInt8} (h : ∀ b ∈ w, b ≠ 32) (r : List UInt8) : words (w ++ 32 :: r) = (w, r) := by
 have h1 := (uI h r).1;unfold words;rw [h1, if_pos (by simp)];simp
def objW : List UInt8 := [111, 98, 106, 101, 99, 116, 32]
theorem words_obj (r : List UInt8) : words (objW ++ r) = ([111, 98, 106, 101, 99, 116], r) :=
 words_cut (w := [111, 98, 106, 101, 99, 116]) (by decide) r
theorem cutPrefix_eq (s : List UInt8) : O7 s [111, 98, 106, 101, 99, 116, 32] = some (if s.take 7 = objW then (s.drop 7, true) else (s, false)) := by
 unfold O7 L4 L5;have e7 : ((([111, 98, 106, 101, 99, 116, 32] : List UInt8).length : Nat) : Int) = 7 := rfl;rw [e7];have et : (7 : Int).toNat = 7 := rfl;rw [et];by_cases h : (s.length : Int) ≥ 7
 ·rw [if_pos h, j5 (by omega), f7];by_cases hp : s.take 7 = objW
  ·have hp' : s.take 7 = ([111, 98, 106, 101, 99, 116, 32] : List UInt8) := hp;rw [decide_eq_true hp', if_pos rfl, j5 (by omega), f7, if_pos hp]
  ·have hp' : ¬ s.take 7 = ([111, 98, 106, 101, 99, 116, 32] : List UInt8) := hp;rw [decide_eq_false hp', if_neg (by simp), f7, if_neg hp]
 ·have hp : ¬ s.take 7 = objW := fun e => by
   have := congrArg List.length e;have hl : objW.length = 7 := rfl;rw [List.length_take, hl] at this;omega
  rw [if_neg h, f7, if_neg (by simp), f7, if_neg hp]
theorem own_of {cs : List PCode} {n : Int} (h : isImg (mIm cs) n = true) : ownR cs = true := by
 have h' := h;unfold isImg at h';simp only [Bool.and_eq_true, decide_eq_true_eq] at h';have hc := h'.2.2.2.1;by_cases h0 : cs = []
 ·subst h0;have := h'.1;unfold inside at this;simp only [Bool.and_eq_true, decide_eq_true_eq] at this;have e : ((mIm []).codes.length : Int) = 0 := rfl;omega
 ·obtain ⟨ini, c, rfl⟩ : ∃ ini c, cs = ini ++ [c] := ⟨cs.dropLast, cs.getLast h0, (List.dropLast_concat_getLast h0).symm⟩
  have e : ((mIm (ini ++ [c])).codes.getD ((mIm (ini ++ [c])).codes.length - 1) default) = c := by
   show (ini ++ [c]).getD ((ini ++ [c]).length - 1) default = c;simp [List.getD]
  rw [e] at hc;have ho : ownR (ini ++ [c]) = isImg (mIm (ini ++ [c])) c.captures := by unfold ownR; simp
  rw [ho, hc]; exact h
def okI (lines : LL) (m : PImage) : Bool := ownR m.codes && decide (linesT m.codes = lines)
theorem img_fmt {cs : List PCode} {n : Nat} (hv : Inv cs n) (hn : n ≤ 1048576) : U9 (mIm cs) = some (if ownR cs = true then linesT cs else []) ∧ (ownR cs = true → ¬ Bad cs) ∧ Y6 (mIm cs) = some (linesT cs) ∧ K0 (mIm cs) = some (linesT cs) := by
 have hs := (wE hv hn).1;have hcl := dC cs;have hvl := hv.1;have hd : ∀ c ∈ (mIm cs).codes, ∀ x ∈ c.instrs, wD x.d ≤ 1048576 := fun c hc x hx => by have := (hv.2 c hc).2 x hx; omega
 have hnm : ∀ c ∈ (mIm cs).codes, numsOK c := fun c hc => (hv.2 c hc).1;have hll : (linesT (mIm cs).codes).length ≤ 1048576 := by show (linesT cs).length ≤ _; omega
 have ii := kC (mIm cs) hll hd hnm;have si := nW (mIm cs) hll hd hnm;by_cases h0 : cs = []
 ·subst h0;exact ⟨rfl, (fun h => Bool.noConfusion (show false = true from h)), si, ii⟩
 ·obtain ⟨ini, c, rfl⟩ : ∃ ini c, cs = ini ++ [c] := ⟨cs.dropLast, cs.getLast h0, (List.dropLast_concat_getLast h0).symm⟩
  have ho : ownR (ini ++ [c]) = isImg (mIm (ini ++ [c])) c.captures := by unfold ownR; simp
  have c2 : I64 (((mIm (ini ++ [c])).codes.length : Int) - 1) := show -9223372036854775808 ≤ ((ini ++ [c]).length : Int) - 1 ∧ ((ini ++ [c]).length : Int) - 1 ≤ 9223372036854775807 by omega
  have hne : ¬ ((mIm (ini ++ [c])).codes.length : Int) = 0 := by show ¬ ((ini ++ [c]).length : Int) = 0; simp; omega
  have hln : nth (mIm (ini ++ [c])).codes (((mIm (ini ++ [c])).codes.length : Int) - 1) = some c := last_nth ini c;rw [ho];refine ⟨?_, fun h => isImg_notBad h, si, ii⟩;unfold U9;rw [if_neg hne, j5 c2, hln, f7, sV _ hs, f7];by_cases hi : isImg (mIm (ini ++ [c])) c.captures = true
  ·rw [if_pos hi, if_pos hi, ii, f7]; rfl
  ·rw [if_neg hi, if_neg hi]
theorem img_read (lines : LL) (hs : ∀ l ∈ lines, l.length ≤ 1048576) (hn : lines.length ≤ 1048576) : ∃ m, hY lines = some m ∧ bJ lines = some (if okI lines m = true then (m, true) else (zI, false)) ∧ m.small ∧ wM m ≤ 130000000000 ∧
 Y6 m = some (linesT m.codes) ∧ K0 m = some (linesT m.codes) ∧ (linesT m.codes).length ≤ 1048576 ∧ ∀ n, isImg m n = true → ownR m.codes = true := by
 obtain ⟨m, e1, e2⟩ := read_both lines hs hn lines.length LF LF 0 [] (by omega) (by rw [LF_eq]; omega) (by rw [LF_eq]; omega) ⟨rfl, fun c hc => by cases hc⟩;have e1' : hY lines = some m := e1;have hzl : ∀ c ∈ zI.codes, ∀ x ∈ c.instrs, wD x.d ≤ 1048576 := fun c hc => by cases hc
 have hzn : ∀ c ∈ zI.codes, numsOK c := fun c hc => by cases hc
 have hzz : (linesT zI.codes).length ≤ 1048576 := by show 0 ≤ _; omega
 have hzi : ∀ n, isImg zI n = true → ownR zI.codes = true := fun n h => by
  unfold isImg at h;simp only [Bool.and_eq_true] at h;have := h.1;unfold inside at this;simp only [Bool.and_eq_true, decide_eq_true_eq] at this;have e : ((zI.codes.length : Nat) : Int) = 0 := rfl;have h1 := this.1;rw [e] at h1;omega
 have hz : zI.small ∧ wM zI ≤ 130000000000 := ⟨⟨by show 0 ≤ _; omega, fun c hc => by cases hc⟩, by show 0 ≤ _; omega⟩
 refine ⟨m, e1', ?_⟩;unfold bJ;rcases e2 with ⟨cs, rfl, hv, e2⟩ | ⟨hl, e2⟩
 ·have e2' : itr (u7 lines) LF (0, []) = endI lines cs := e2;obtain ⟨o2, o3, o4, o5⟩ := img_fmt hv hn;have hsm := wE hv hn;have hcl := dC cs;have hvl := hv.1;have c2 : I64 ((cs.length : Int) - 1) := show -9223372036854775808 ≤ (cs.length : Int) - 1 ∧ (cs.length : Int) - 1 ≤ 9223372036854775807 by omega
  refine ⟨?_, hsm.1, hsm.2, o4, o5, by show (linesT cs).length ≤ _; omega, fun n h => own_of h⟩;rw [e2'];unfold endI okI;rw [j5 c2, o2];show _ = some (if (ownR cs && decide (linesT cs = lines)) = true then (mIm cs, true) else (zI, false));by_cases ho : ownR cs = true
  ·have h0 : ¬ (lines.length : Int) = 0 := fun e => by
    have : (linesT cs).length = 0 := by omega
    have : cs = [] := List.eq_nil_of_length_eq_zero (by omega);subst this; cases ho
   rw [if_pos ho, if_neg h0, f7, V9 _ _ (by omega), f7, ho, Bool.true_and];by_cases he : linesT cs = lines
   ·rw [if_pos (decide_eq_true he), if_pos (decide_eq_true he)]
   ·rw [if_neg (by simpa using he), if_neg (by simpa using he)]
  ·have ho' : ownR cs = false := by simpa using ho
   simp only [ho', Bool.false_and, Bool.false_eq_true, if_false];by_cases h0 : (lines.length : Int) = 0
   ·rw [if_pos h0]
   ·have hne : ¬ ([] : LL) = lines := fun e => h0 (by rw [← e]; rfl);rw [if_neg h0, f7, V9 _ _ (by simp), f7, if_neg (by simpa using hne)]
 ·have e2' : itr (u7 lines) LF (0, []) = some (zI, false) := e2;rw [e2'];rcases hl with rfl | ⟨cs, rfl, hv, hd⟩
  ·refine ⟨?_, hz.1, hz.2, nW zI hzz hzl hzn, kC zI hzz hzl hzn, hzz, hzi⟩;have e : okI lines zI = false := rfl;rw [e, if_neg (by simp)]
  ·obtain ⟨o2, o3, o4, o5⟩ := img_fmt hv hn;have hsm := wE hv hn;have hvl := hv.1;refine ⟨?_, hsm.1, hsm.2, o4, o5, by show (linesT cs).length ≤ _; omega, fun n h => own_of h⟩;have e : ¬ okI lines (mIm cs) = true := fun h => by
    unfold okI at h;rw [Bool.and_eq_true, decide_eq_true_eq] at h;rcases hd with hd | hd
    ·exact o3 h.1 hd
    ·exact hd (by rw [List.take_length]; exact h.2)
   rw [if_neg e]
theorem pO (o : PObj) (hs : o.small) (hi : K0 o.image = some (linesT o.image.codes)) : V8 o = some (if isObj o = true then headO o ++ linesT o.image.codes else []) := by
 have hsm : SM o.name := by have := hs.1; unfold SM; omega
 unfold V8;rw [ad1 o hs hsm, f7];by_cases ho : isObj o = true
 ·have hi' := ho;unfold isObj at hi';rw [Bool.and_eq_true, Bool.and_eq_true] at hi';have hu := uT _ _ hi'.2.1;have h1 : numsIn o.defines := fun n hn => hu n (List.mem_append_left _ hn);have h2 : numsIn o.uses := fun n hn => hu n (List.mem_append_right _ hn);have hl : (linesT o.image.codes).length ≤ 17500 := mS hi'.2.2;have hk := isShort_len hi'.1;have l0 := hs.1;rw [if_pos ho, if_pos ho, j5 (by simp; omega), zW _ _ h1 hs.2.1 (by simp), f7, zW _ _ h2 hs.2.2.1 (by simp), f7, hi, f7, j5 (by simp; omega)];rfl
 ·rw [if_neg ho, if_neg ho]
abbrev zO : PObj := PObj.mk [] [] [] zI
theorem nT {s w : List UInt8} {l : List Int} (e : s = wordT w l) (h : ∀ b ∈ w, b ≠ 32) (hn : nums5 l) : (if (words s).1 = w then numR (rst s) [] else ([], false)) = (l, true) := by
 obtain ⟨h1, h2⟩ := words_wordT l w h hn;rw [e, if_pos h1, h2, numR_word l hn]
theorem nS {s w : List UInt8} (h : (if (words s).1 = w then numR (rst s) [] else ([], false)).2 = true) : (if (words s).1 = w then numR (rst s) [] else ([], false)).1 = numsS (words s).2 := by
 by_cases hw : (words s).1 = w
 ·rw [if_pos hw] at h ⊢;exact (rest_same h).symm
 ·rw [if_neg hw] at h; cases h
theorem ParseObject_eq (L : LL) (hs : ∀ l ∈ L, l.length ≤ 1048576) (hn : L.length ≤ 1048576) : ∃ r, aJ L = some r ∧ V0 L = some r ∧ r.1.small ∧ wM r.1.image ≤ 130000000000 := by
 have hz : zO.small ∧ wM zO.image ≤ 130000000000 := ⟨⟨by show 0 ≤ _; omega, by show 0 ≤ _; omega, by show 0 ≤ _; omega, by show 0 ≤ _; omega, fun c hc => by cases hc⟩, by show 0 ≤ _; omega⟩
 unfold aJ V0;by_cases h3 : (L.length : Int) < 3
 ·rw [if_pos h3, if_pos h3]; exact ⟨_, rfl, rfl, hz⟩
 obtain ⟨l0, l1, l2, rest, rfl⟩ : ∃ l0 l1 l2 rest, L = l0 :: l1 :: l2 :: rest := by
  match L, h3 with
  | [], h => exact absurd (show ((([] : LL).length : Nat) : Int) < 3 by simp) h
  | [_], h => exact absurd (show (_ : Int) < 3 by simp) h
  | [_, _], h => exact absurd (show (_ : Int) < 3 by simp) h
  | a :: b :: c :: r, _ => exact ⟨a, b, c, r, rfl⟩
 have s0 := hs l0 (by simp);have s1 := hs l1 (by simp);have s2 := hs l2 (by simp);have hlen : (l0 :: l1 :: l2 :: rest).length = rest.length + 3 := by simp
 obtain ⟨m, e1, e2, e3, e4, e5, e6, e7, e8⟩ := img_read rest (fun l hl => hs l (by simp [hl])) (by omega);have k0 : nth (l0 :: l1 :: l2 :: rest) 0 = some l0 := rfl;have k1 : nth (l0 :: l1 :: l2 :: rest) 1 = some l1 := rfl;have k2 : nth (l0 :: l1 :: l2 :: rest) 2 = some l2 := rfl;have kd : (l0 :: l1 :: l2 :: rest).drop (3 : Int).toNat = rest := rfl;have w0 := lZ l0;have w1 := lZ l1;have w2 := lZ l2;have hd1 := qF _ (words l1).2 (Nat.le_refl _);have hd2 := qF _ (words l2).2 (Nat.le_refl _);have n1 : I4 l1 ([100, 101, 102, 105, 110, 101, 115] : List UInt8) = some (if (words l1).1 = wdD then numR (rst l1) [] else ([], false)) := dN l1 wdD s1;have n2 : I4 l2 ([117, 115, 101, 115] : List UInt8) = some (if (words l2).1 = wdU then numR (rst l2) [] else ([], false)) := dN l2 wdU s2;rw [if_neg h3, if_neg h3, k0, k1, k2, kd, f7, f7, V4 _ s0, f7, f7, V4 _ s1, f7, f7, V4 _ s2, f7, eI _ (by omega), f7, eI _ (by omega), f7, j5 (by omega), e1, f7,
  cutPrefix_eq, f7, f7, n1, f7, f7, n2, f7, j5 (by omega), e2, f7]
 generalize ho : PObj.mk (words l0).2 (numsS (words l1).2) (numsS (words l2).2) m = o;have hsm : o.small := by
  subst ho;exact ⟨by show (words l0).2.length ≤ _; omega, by show (numsS (words l1).2).length ≤ _; omega, by show (numsS (words l2).2).length ≤ _; omega, e3⟩
 have hSM : SM o.name := by have := hsm.1; unfold SM; omega
 have hom : o.image = m := by subst ho; rfl
 rw [af4 o hsm hSM, f7];have hf := pO o hsm (by rw [hom]; exact e6);rw [hom] at hf;by_cases hi : isObj o = true ∧ headO o ++ linesT m.codes = l0 :: l1 :: l2 :: rest
 ·obtain ⟨hi, he⟩ := hi;have hi' := hi;unfold isObj at hi';rw [Bool.and_eq_true, Bool.and_eq_true] at hi';have hu := uT _ _ hi'.2.1;have h5 := aa8 _ _ hi'.2.1;have hlf : (linesT m.codes).length ≤ 17500 := by have := mS hi'.2.2; rw [hom] at this; exact this
  have hhl : (headO o).length = 3 := rfl;have he' := he;unfold headO at he';simp only [List.cons_append, List.nil_append, List.cons.injEq] at he';obtain ⟨q0, q1, q2, q3⟩ := he';have a0 : l0.take 7 = objW := by rw [← q0]; rfl
  have a1 : l0.drop 7 = o.name := by rw [← q0]; rfl
  have b1 := nT q1.symm (show ∀ b ∈ wdD, b ≠ 32 by decide) (fun n hn => h5 n (List.mem_append_left _ hn));have b2 := nT q2.symm (show ∀ b ∈ wdU, b ≠ 32 by decide) (fun n hn => h5 n (List.mem_append_right _ hn));have hk : okI rest m = true := by
   unfold okI;rw [e8 _ (by rw [← hom]; exact hi'.2.2), Bool.true_and, decide_eq_true_eq];exact q3
  have heta : PObj.mk o.name o.defines o.uses m = o := by rw [← hom]
  rw [if_pos hi, tG o (fun n hn => hu n (List.mem_append_left _ hn)) (fun n hn => hu n (List.mem_append_right _ hn)) hsm, f7, e5, f7, j5 (by rw [hhl]; omega), he, xQ _ _ hn, f7, decide_eq_true rfl, if_pos rfl,
   if_pos a0, b1, b2, if_pos hk]
  simp only [if_true];rw [a1, heta, hf, if_pos hi, f7, he, V9 _ _ hn, f7, decide_eq_true rfl, if_pos rfl];exact ⟨_, rfl, rfl, hsm, by rw [hom]; exact e4⟩
 ·have hS : (if isObj o = true then bnd (hU o) fun x12 => bnd (Y6 m) fun x13 => chk ((x12.length + x13.length) * 16 ≤ 140737488355328) <| bnd (nC (x12 ++ x13) (l0 :: l1 :: l2 :: rest)) fun x14 => if x14 = true then some (o, true) else some (zO, false) else some (zO, false)) = some (zO, false) := by
   by_cases hio : isObj o = true
   ·have hi' := hio;unfold isObj at hi';rw [Bool.and_eq_true, Bool.and_eq_true] at hi';have hu := uT _ _ hi'.2.1;have hlf : (linesT m.codes).length ≤ 17500 := by have := mS hi'.2.2; rw [hom] at this; exact this
    have hhl : (headO o).length = 3 := rfl;have hne : ¬ headO o ++ linesT m.codes = l0 :: l1 :: l2 :: rest := fun e => hi ⟨hio, e⟩;rw [if_pos hio, tG o (fun n hn => hu n (List.mem_append_left _ hn)) (fun n hn => hu n (List.mem_append_right _ hn)) hsm, f7, e5, f7, j5 (by rw [hhl]; omega), xQ _ _ (by rw [List.length_append, hhl]; omega), f7, decide_eq_false hne, if_neg (by simp)]
   ·rw [if_neg hio]
  rw [hS];refine ⟨(zO, false), rfl, ?_, hz⟩;by_cases hA : l0.take 7 = objW
  ·rw [if_pos hA];simp only [if_true];by_cases hB : (if (words l1).1 = wdD then numR (rst l1) [] else ([], false)).2 = true
   ·rw [if_pos hB];by_cases hC : (if (words l2).1 = wdU then numR (rst l2) [] else ([], false)).2 = true
    ·rw [if_pos hC];by_cases hD : okI rest m = true
     ·have c1 := nS hB;have c2 := nS hC;have hw : (words l0).2 = l0.drop 7 := by
       have e : l0 = objW ++ l0.drop 7 := by rw [← hA, List.take_append_drop]
       rw [e, words_obj]; rfl
      rw [if_pos hD];simp only [if_true];rw [c1, c2, ← hw, ho, hf, f7];by_cases hio : isObj o = true
      ·have hne : ¬ headO o ++ linesT m.codes = l0 :: l1 :: l2 :: rest := fun e => hi ⟨hio, e⟩;have hi' := hio;unfold isObj at hi';rw [Bool.and_eq_true, Bool.and_eq_true] at hi';have hlf : (linesT m.codes).length ≤ 17500 := by have := mS hi'.2.2; rw [hom] at this; exact this
       have hhl : (headO o).length = 3 := rfl;rw [if_pos hio, V9 _ _ (by rw [List.length_append, hhl]; omega), f7, decide_eq_false hne, if_neg (by simp)]
      ·rw [if_neg hio, V9 _ _ (by simp), f7, decide_eq_false (by simp), if_neg (by simp)]
     ·rw [if_neg hD]; simp
    ·rw [if_neg hC]
   ·rw [if_neg hB]
  ·rw [if_neg hA]; simp
end Go.Abs
