/-
  Plain: how the made programs are reckoned: checks, places, loops.
-/
import Derived.Test.YtiecdekmiabmkaaGnT
set_option linter.unusedVariables false
set_option linter.unusedSimpArgs false
namespace Go.Abs

theorem nth_lt {α : Type} {l : List α} {i : Nat} (h : i < l.length) : nth l (i : Int) = some l[i] := by rw [nth_nat, List.getElem?_eq_getElem h]
theorem nth_int {α : Type} {l : List α} {i : Int} (h : 0 ≤ i) (h2 : i < l.length) : nth l i = some (l[i.toNat]'(by omega)) := by
  unfold nth; rw [if_pos h, List.getElem?_eq_getElem]
theorem nth_0 {α : Type} {x : α} {l : List α} : nth (x :: l) 0 = some x := rfl
theorem i64_of {x : Int} (h : -9223372036854775808 ≤ x ∧ x ≤ 9223372036854775807) : I64 x := h

/-- A LOOP, by what it comes to from each state. -/
theorem itr_run {σ R : Type} {L : (σ → Option R) → σ → Option R} (f : σ → Option R) (P : σ → Prop) (μ : σ → Nat)
    (step : ∀ go v, P v → (∀ v', P v' → μ v' < μ v → go v' = f v') → L go v = f v) : ∀ n v, P v → μ v < n → itr L n v = f v
  | 0, v, _, h => by omega
  | n + 1, v, hp, h => step (itr L n) v hp fun v' hp' hm => itr_run f P μ step n v' hp' (by omega)
theorem itr_LF {σ R : Type} {L : (σ → Option R) → σ → Option R} (f : σ → Option R) (P : σ → Prop) (μ : σ → Nat)
    (step : ∀ go v, P v → (∀ v', P v' → μ v' < μ v → go v' = f v') → L go v = f v) (v : σ) (hp : P v) (h : μ v < 18446744073709551616) : itr L LF v = f v := by
  rw [LF_eq]; exact itr_run f P μ step _ v hp h

/-- A loop over places. -/
theorem itr_idx {R : Type} {L : (Int → Option R) → Int → Option R} (n : Nat) (f : Nat → Option R) (hn : n ≤ 9223372036854775807)
    (step : ∀ go (i : Nat), i < n → go ((i : Int) + 1) = f (i + 1) → L go (i : Int) = f i) (fin : ∀ go, L go (n : Int) = f n) : itr L LF 0 = f 0 := by
  refine itr_LF (fun i : Int => f i.toNat) (fun i => 0 ≤ i ∧ i ≤ n) (fun i => n - i.toNat) (fun go v hv hgo => ?_) 0 ⟨by omega, by omega⟩ (by omega)
  obtain ⟨i, rfl⟩ := Int.eq_ofNat_of_zero_le hv.1
  show L go (i : Int) = f i
  by_cases h : i < n
  · exact step go i h (hgo ((i : Int) + 1) ⟨by omega, by omega⟩ (by omega))
  · have : i = n := by omega
    subst this; exact fin go
/-- The same with what is carried along, ahead of the place or behind it. -/
theorem itr_idxA {A R : Type} {L : (Int × A → Option R) → Int × A → Option R} (n : Nat) (I : Nat → A → Prop) (f : Nat → A → Option R) (hn : n ≤ 9223372036854775807)
    (step : ∀ go (i : Nat) a, i < n → I i a → (∀ a', I (i + 1) a' → go ((i : Int) + 1, a') = f (i + 1) a') → L go ((i : Int), a) = f i a) (fin : ∀ go a, I n a → L go ((n : Int), a) = f n a) {a : A} (h0 : I 0 a) : itr L LF (0, a) = f 0 a := by
  refine itr_LF (fun v : Int × A => f v.1.toNat v.2) (fun v => (0 ≤ v.1 ∧ v.1 ≤ n) ∧ I v.1.toNat v.2) (fun v => n - v.1.toNat) (fun go v hv hgo => ?_) (0, a) ⟨⟨by omega, by omega⟩, h0⟩ (by simp; omega)
  obtain ⟨v1, v2⟩ := v
  obtain ⟨i, rfl⟩ := Int.eq_ofNat_of_zero_le hv.1.1
  show L go ((i : Int), v2) = f i v2
  have h1 : (i : Int) ≤ n := hv.1.2
  by_cases h : i < n
  · exact step go i v2 h hv.2 fun a' ha => hgo ((i : Int) + 1, a') ⟨⟨by show 0 ≤ (i : Int) + 1; omega, by show (i : Int) + 1 ≤ n; omega⟩, ha⟩ (by show n - ((i : Int) + 1).toNat < n - (i : Int).toNat; omega)
  · have : i = n := by omega
    subst this; exact fin go v2 hv.2
theorem itr_Aidx {A R : Type} {L : (A × Int → Option R) → A × Int → Option R} (n : Nat) (I : Nat → A → Prop) (f : Nat → A → Option R) (hn : n ≤ 9223372036854775807)
    (step : ∀ go (i : Nat) a, i < n → I i a → (∀ a', I (i + 1) a' → go (a', (i : Int) + 1) = f (i + 1) a') → L go (a, (i : Int)) = f i a) (fin : ∀ go a, I n a → L go (a, (n : Int)) = f n a) {a : A} (h0 : I 0 a) : itr L LF (a, 0) = f 0 a := by
  refine itr_LF (fun v : A × Int => f v.2.toNat v.1) (fun v => (0 ≤ v.2 ∧ v.2 ≤ n) ∧ I v.2.toNat v.1) (fun v => n - v.2.toNat) (fun go v hv hgo => ?_) (a, 0) ⟨⟨by omega, by omega⟩, h0⟩ (by simp; omega)
  obtain ⟨v1, v2⟩ := v
  obtain ⟨i, rfl⟩ := Int.eq_ofNat_of_zero_le hv.1.1
  show L go (v1, (i : Int)) = f i v1
  have h1 : (i : Int) ≤ n := hv.1.2
  by_cases h : i < n
  · exact step go i v1 h hv.2 fun a' ha => hgo (a', (i : Int) + 1) ⟨⟨by show 0 ≤ (i : Int) + 1; omega, by show (i : Int) + 1 ≤ n; omega⟩, ha⟩ (by show n - ((i : Int) + 1).toNat < n - (i : Int).toNat; omega)
  · have : i = n := by omega
    subst this; exact fin go v1 hv.2

/-- All elements are of a kind. -/
theorem itr_all {α : Type} {R : Type} {L : (Int → Option R) → Int → Option R} (xs : List α) (p : α → Bool) (y z : Option R) (hn : xs.length ≤ 9223372036854775807)
    (step : ∀ go (i : Nat) (h : i < xs.length), L go (i : Int) = if p xs[i] then go ((i : Int) + 1) else z) (fin : ∀ go, L go (xs.length : Int) = y) : itr L LF 0 = if xs.all p then y else z := by
  have := itr_idx (L := L) xs.length (fun i => if (xs.drop i).all p then y else z) hn (fun go i hi hgo => ?_) (fun go => ?_)
  · simpa using this
  · rw [step go i hi, hgo, List.drop_eq_getElem_cons hi, List.all_cons]
    cases p xs[i] <;> simp
  · rw [fin]; simp
end Go.Abs
