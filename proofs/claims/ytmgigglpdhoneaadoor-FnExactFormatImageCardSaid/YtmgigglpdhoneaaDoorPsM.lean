/-
  Plain: the laws' marks: how many, and that they are found where they were laid.
-/
import Derived.Test.YtmgigglpdhoneaaDoorPsL
import Derived.Test.YtmgigglpdhoneaaDoorGpE
set_option linter.unusedVariables false
set_option linter.unusedSimpArgs false
namespace Go.Abs
open PDat

theorem itr_ex {σ R : Type} {L : (σ → Option R) → σ → Option R} (Q : R → Prop) (P : σ → Prop) (μ : σ → Nat)
    (step : ∀ go v, P v → (∀ v', P v' → μ v' < μ v → ∃ r, go v' = some r ∧ Q r) → ∃ r, L go v = some r ∧ Q r) : ∀ n v, P v → μ v < n → ∃ r, itr L n v = some r ∧ Q r
  | 0, v, _, h => by omega
  | n + 1, v, hp, h => step (itr L n) v hp fun v' hp' hm => itr_ex Q P μ step n v' hp' (by omega)
theorem itr_exLF {σ R : Type} {L : (σ → Option R) → σ → Option R} (Q : R → Prop) (P : σ → Prop) (μ : σ → Nat)
    (step : ∀ go v, P v → (∀ v', P v' → μ v' < μ v → ∃ r, go v' = some r ∧ Q r) → ∃ r, L go v = some r ∧ Q r) (v : σ) (hp : P v) (h : μ v < 18446744073709551616) : ∃ r, itr L LF v = some r ∧ Q r := by
  rw [LF_eq]; exact itr_ex Q P μ step _ v hp h

/-! ### Texts -/
theorem markText_some (k : Int) (h : k ≤ 4611686018427387904) : ∃ t, w_markText k = some t := by
  unfold w_markText
  by_cases h0 : k ≤ 0
  · rw [if_pos h0]; exact ⟨_, rfl⟩
  · rw [if_neg h0]
    have := itr_exLF (L := w_markText_L1) (fun _ => True) (fun v => 0 ≤ v.1 ∧ v.1 + v.2.length ≤ 4611686018427387904) (fun v => v.1.toNat) (fun go v hv hgo => ?_) (k, []) ⟨by omega, by simpa using h⟩ (by omega)
    · obtain ⟨t, h1, _⟩ := this; exact ⟨t, h1⟩
    · obtain ⟨k, out⟩ := v
      show ∃ r, w_markText_L1b go k out = some r ∧ True
      unfold w_markText_L1b
      have h1 : 0 ≤ k := hv.1
      have h2 : k + (out.length : Int) ≤ 4611686018427387904 := hv.2
      by_cases hk : k > 0
      · rw [if_pos hk, chk_t (by omega), chk_t (by omega), chk_t (by omega), chk_t (by simp; omega), chk_t (by omega)]
        exact hgo _ ⟨by show 0 ≤ k / 10; omega, by simp; omega⟩ (by show (k / 10).toNat < k.toNat; omega)
      · rw [if_neg hk, chk_t (by simp; omega)]
        exact ⟨_, rfl, trivial⟩

/-! ### Numbers -/
theorem nth_set {α : Type} {l : List α} {i : Nat} {v : α} (h : i < l.length) : nth (l.set i v) (i : Int) = some v := by
  rw [nth_lt (by simpa using h)]; simp
theorem wts_cons {α : Type} (wt : α → Nat) (x : α) (r : List α) : wts wt (x :: r) = 1 + wt x + wts wt r := by
  unfold wts; simp only [List.length_cons, List.map_cons, List.sum_cons]; omega
/-- A loop that lays marks in place. -/
theorem mark_loop {α : Type} (wt : α → Nat) (xs : List α) {L : (Int × Int × List α → Option (Int × List α)) → Int × Int × List α → Option (Int × List α)} (k0 B : Int) (hn : xs.length ≤ 1048576) (hB : k0 + 6 * (wts wt xs : Nat) ≤ B)
    (step : ∀ go (i : Nat) (hi : i < xs.length) k a, a.length = xs.length → a[i]? = some xs[i] → k0 ≤ k → k + 6 * ((1 + wt xs[i] : Nat) : Int) ≤ B → ∃ k2 y, L go (k, (i : Int), a) = go (k2, (i : Int) + 1, a.set i y) ∧ k ≤ k2 ∧ k2 ≤ k + 6 * ((1 + wt xs[i] : Nat) : Int))
    (fin : ∀ go k a, a.length = xs.length → L go (k, (xs.length : Int), a) = some (k, a)) :
    ∃ k' a', itr L LF (k0, 0, xs) = some (k', a') ∧ a'.length = xs.length ∧ k0 ≤ k' ∧ k' ≤ B := by
  have := itr_exLF (L := L) (fun r => r.2.length = xs.length ∧ k0 ≤ r.1 ∧ r.1 ≤ B) (fun v => (0 ≤ v.2.1 ∧ v.2.1 ≤ xs.length) ∧ v.2.2.length = xs.length ∧ v.2.2.drop v.2.1.toNat = xs.drop v.2.1.toNat ∧ k0 ≤ v.1 ∧ v.1 + 6 * ((wts wt (xs.drop v.2.1.toNat) : Nat) : Int) ≤ B) (fun v => xs.length - v.2.1.toNat) (fun go v hv hgo => ?_) (k0, 0, xs) ⟨⟨Int.le_refl _, by show (0 : Int) ≤ _; omega⟩, rfl, rfl, Int.le_refl _, by simpa using hB⟩ (by show xs.length - 0 < _; omega)
  · obtain ⟨r, h1, h2, h3, h4⟩ := this
    exact ⟨r.1, r.2, h1, h2, h3, h4⟩
  · obtain ⟨k, j, a⟩ := v
    obtain ⟨⟨h1, h2⟩, h3, h4, h5, h6⟩ := hv
    simp only at h1 h2 h3 h4 h5 h6
    obtain ⟨i, rfl⟩ := Int.eq_ofNat_of_zero_le h1
    simp only [Int.ofNat_eq_natCast, Int.toNat_natCast] at *
    by_cases hi : i < xs.length
    · have hai : a[i]? = some xs[i] := by
        have := congrArg (fun l => l[0]?) h4
        simpa [List.getElem?_drop, List.getElem?_eq_getElem hi] using this
      have hw : wts wt (xs.drop i) = 1 + wt xs[i] + wts wt (xs.drop (i + 1)) := by
        rw [List.drop_eq_getElem_cons hi, wts_cons]
      obtain ⟨k2, y, e, g1, g2⟩ := step go i hi k a h3 hai h5 (by rw [hw] at h6; omega)
      rw [e]
      refine hgo (k2, (i : Int) + 1, a.set i y) ⟨⟨by show (0 : Int) ≤ (i : Int) + 1; omega, by show (i : Int) + 1 ≤ _; omega⟩, by simpa using h3, ?_, by show k0 ≤ k2; omega, ?_⟩ ?_
      · have e2 : ((i : Int) + 1).toNat = i + 1 := by omega
        show (a.set i y).drop ((i : Int) + 1).toNat = xs.drop ((i : Int) + 1).toNat
        rw [e2, List.drop_set_of_lt (by omega)]
        have := congrArg (List.drop 1) h4
        simpa [List.drop_drop, Nat.add_comm] using this
      · have e2 : ((i : Int) + 1).toNat = i + 1 := by omega
        show k2 + 6 * ((wts wt (xs.drop ((i : Int) + 1).toNat) : Nat) : Int) ≤ B
        rw [e2]
        rw [hw] at h6
        omega
      · show xs.length - ((i : Int) + 1).toNat < xs.length - (i : Int).toNat
        omega
    · have : i = xs.length := by omega
      subst this
      rw [fin go k a h3]
      refine ⟨_, rfl, h3, h5, ?_⟩
      rw [List.drop_length] at h6
      have h0 : wts wt ([] : List α) = 0 := rfl
      rw [h0] at h6
      show k ≤ B
      omega

/-! ### Data -/
theorem mk_items (k n : Int) (t : List UInt8) (is : List PDat) : (PDat.mk k n t is).items = is := rfl
theorem mk_kind (k n : Int) (t : List UInt8) (is : List PDat) : (PDat.mk k n t is).kind = k := rfl
theorem mk_number (k n : Int) (t : List UInt8) (is : List PDat) : (PDat.mk k n t is).number = n := rfl
theorem mk_text (k n : Int) (t : List UInt8) (is : List PDat) : (PDat.mk k n t is).text = t := rfl
theorem markDatumS_some : ∀ (n : Nat) (ds : List PDat) (k : Int), cnts ds < n → wDs ds ≤ 1048576 → 0 ≤ k → k + 6 * ((wDs ds : Nat) : Int) ≤ 1000000000000 → ∃ k' ds', w_markDatumS n ds k = some (k', ds') ∧ ds'.length = ds.length ∧ k ≤ k' ∧ k' ≤ k + 6 * ((wDs ds : Nat) : Int)
  | 0, ds, k, h, _, _, _ => by omega
  | n + 1, ds, k, h, hc, h0, h1 => by
    show ∃ k' ds', w_markDatumS_b (w_markDatumS n) ds k = some (k', ds') ∧ _
    unfold w_markDatumS_b
    have hl := cnts_len ds
    have hw := cnt_wD.2 ds
    rw [wDs_eq] at h1 ⊢
    refine mark_loop wD ds (L := w_markDatumS_L1 (w_markDatumS n)) k (k + 6 * ((wts wD ds : Nat) : Int)) (by omega) (Int.le_refl _) (fun go i hi k1 a ha hai hk hB => ?_) (fun go k1 a ha => ?_)
    · show ∃ k2 y, w_markDatumS_L1b (w_markDatumS n) go k1 (i : Int) a = _ ∧ _
      unfold w_markDatumS_L1b
      have hia : i < a.length := by omega
      have hm := wDs_mem (List.getElem_mem hi)
      have hmem := cnts_mem (List.getElem_mem hi)
      have hx : a[i] = ds[i] := by
        rw [List.getElem?_eq_getElem hia] at hai; exact Option.some.inj hai
      have hwi := wD_eq ds[i]
      have hci := cnt_eq ds[i]
      obtain ⟨t, ht⟩ := markText_some (k1 + 1 + 1) (by omega)
      obtain ⟨k', ds', e1, e2, e3, e4⟩ := markDatumS_some n ds[i].items (k1 + 1 + 1 + 1) (by omega) (by omega) (by omega) (by omega)
      simp only [Int.toNat_natCast, List.set_set]
      rw [if_pos (by omega), nth_lt hia, bnd_eq, chk_t (by omega), nth_set hia, bnd_eq, chk_t (by omega), ht, bnd_eq, nth_set hia, bnd_eq, chk_t (by omega), nth_set hia, bnd_eq, hx]
      try simp only [mk_items, mk_kind, mk_number, mk_text]
      rw [e1, bnd_eq]
      exact ⟨k', _, (chk_t e2).trans (chk_t (by omega)), by omega, by omega⟩
    · show w_markDatumS_L1b (w_markDatumS n) go k1 (ds.length : Int) a = _
      unfold w_markDatumS_L1b
      rw [if_neg (by omega)]
theorem markInstrS_some (xs : List PInstr) (k : Int) (hw : wts wI xs ≤ 1048576) (h0 : 0 ≤ k) (h1 : k + 6 * ((wts wI xs : Nat) : Int) ≤ 1000000000000) : ∃ k' xs', w_markInstrS xs k = some (k', xs') ∧ xs'.length = xs.length ∧ k ≤ k' ∧ k' ≤ k + 6 * ((wts wI xs : Nat) : Int) := by
  unfold w_markInstrS
  have hlen : xs.length ≤ wts wI xs := by unfold wts; omega
  refine mark_loop wI xs (L := w_markInstrS_L1 xs) k (k + 6 * ((wts wI xs : Nat) : Int)) (by omega) (Int.le_refl _) (fun go i hi k1 a ha hai hk hB => ?_) (fun go k1 a ha => ?_)
  · show ∃ k2 y, w_markInstrS_L1b xs go k1 (i : Int) a = _ ∧ _
    unfold w_markInstrS_L1b
    have hia : i < a.length := by omega
    have hx : a[i] = xs[i] := by
      rw [List.getElem?_eq_getElem hia] at hai; exact Option.some.inj hai
    have hwm := wsum_mem (wt := wI) (List.getElem_mem hi)
    have hws : wts wI xs = xs.length + wsum wI xs := rfl
    have hwi : wI xs[i] = wD xs[i].d := rfl
    have hwd := wD_eq xs[i].d
    have hcc := cnt_wD.2 xs[i].d.items
    obtain ⟨t, ht⟩ := markText_some (k1 + 1 + 1 + 1 + 1) (by omega)
    obtain ⟨k', ds', e1, e2, e3, e4⟩ := markDatumS_some RF xs[i].d.items (k1 + 1 + 1 + 1 + 1 + 1) (by rw [RF_eq]; omega) (by omega) (by omega) (by omega)
    simp only [Int.toNat_natCast, List.set_set]
    rw [if_pos (by omega), nth_lt hia, bnd_eq, chk_t (by omega), nth_set hia, bnd_eq, chk_t (by omega), nth_set hia, bnd_eq, chk_t (by omega), nth_set hia, bnd_eq, chk_t (by omega), ht, bnd_eq, nth_set hia, bnd_eq, chk_t (by omega), nth_set hia, bnd_eq, hx]
    try simp only [mk_items, mk_kind, mk_number, mk_text]
    rw [e1, bnd_eq]
    exact ⟨k', _, (chk_t e2).trans (chk_t (by omega)), by omega, by omega⟩
  · show w_markInstrS_L1b xs go k1 (xs.length : Int) a = _
    unfold w_markInstrS_L1b
    rw [if_neg (by omega)]
theorem markCodeS_some (xs : List PCode) (k : Int) (hw : wts wC xs ≤ 1048576) (h0 : 0 ≤ k) (h1 : k + 6 * ((wts wC xs : Nat) : Int) ≤ 1000000000000) : ∃ k' xs', w_markCodeS xs k = some (k', xs') ∧ xs'.length = xs.length ∧ k ≤ k' ∧ k' ≤ k + 6 * ((wts wC xs : Nat) : Int) := by
  unfold w_markCodeS
  have hlen : xs.length ≤ wts wC xs := by unfold wts; omega
  refine mark_loop wC xs (L := w_markCodeS_L1) k (k + 6 * ((wts wC xs : Nat) : Int)) (by omega) (Int.le_refl _) (fun go i hi k1 a ha hai hk hB => ?_) (fun go k1 a ha => ?_)
  · show ∃ k2 y, w_markCodeS_L1b go k1 (i : Int) a = _ ∧ _
    unfold w_markCodeS_L1b
    have hia : i < a.length := by omega
    have hx : a[i] = xs[i] := by
      rw [List.getElem?_eq_getElem hia] at hai; exact Option.some.inj hai
    have hwm := wsum_mem (wt := wC) (List.getElem_mem hi)
    have hws : wts wC xs = xs.length + wsum wC xs := rfl
    have hwi : wC xs[i] = wts wI xs[i].instrs := rfl
    obtain ⟨k', ds', e1, e2, e3, e4⟩ := markInstrS_some xs[i].instrs (k1 + 1 + 1 + 1) (by omega) (by omega) (by omega)
    simp only [Int.toNat_natCast, List.set_set]
    rw [if_pos (by omega), nth_lt hia, bnd_eq, chk_t (by omega), nth_set hia, bnd_eq, chk_t (by omega), nth_set hia, bnd_eq, chk_t (by omega), nth_set hia, bnd_eq, hx]
    try simp only [mk_items, mk_kind, mk_number, mk_text]
    rw [e1, bnd_eq]
    exact ⟨k', _, (chk_t e2).trans (chk_t (by omega)), by omega, by omega⟩
  · show w_markCodeS_L1b go k1 (xs.length : Int) a = _
    unfold w_markCodeS_L1b
    rw [if_neg (by omega)]
theorem markImage_some (m : PImage) (k : Int) (hw : wM m ≤ 1048576) (h0 : 0 ≤ k) (h1 : k ≤ 1000000) : ∃ k' xs', w_markImage m k = some (k', xs') ∧ xs'.length = m.codes.length ∧ k ≤ k' := by
  have hwm : wM m = wts wC m.codes := rfl
  obtain ⟨k', xs', e1, e2, e3, e4⟩ := markCodeS_some m.codes k (by omega) h0 (by omega)
  unfold w_markImage
  rw [e1, bnd_eq, chk_t e2]
  exact ⟨k', xs', rfl, e2, e3⟩

/-! ### Integers: laid and found -/
def nums (k : Int) : Nat → List Int
  | 0 => []
  | n + 1 => k :: nums (k + 1) n
theorem nums_len : ∀ (n : Nat) (k : Int), (nums k n).length = n
  | 0, _ => rfl
  | n + 1, k => by simp [nums, nums_len n]
theorem nums_get : ∀ (n : Nat) (k : Int) (i : Nat), i < n → (nums k n)[i]? = some (k + i)
  | 0, _, _, h => by omega
  | n + 1, k, 0, _ => by simp [nums]
  | n + 1, k, i + 1, h => by
    have := nums_get n (k + 1) i (by omega)
    simp only [nums, List.getElem?_cons_succ, this]
    congr 1; omega
theorem markIntS_some (xs : List Int) (hn : xs.length ≤ 1048576) : w_markIntS xs 1 = some (1 + (xs.length : Int), nums 1 xs.length) := by
  unfold w_markIntS
  have := itr_exLF (L := w_markIntS_L1) (fun r => r = (1 + (xs.length : Int), nums 1 xs.length)) (fun v => (0 ≤ v.2.1 ∧ v.2.1 ≤ xs.length) ∧ v.1 = 1 + v.2.1 ∧ v.2.2.length = xs.length ∧ ∀ i : Nat, (i : Int) < v.2.1 → v.2.2[i]? = some (1 + (i : Int))) (fun v => xs.length - v.2.1.toNat) (fun go v hv hgo => ?_) (1, 0, xs) ⟨⟨by show (0:Int) ≤ 0; omega, by show (0 : Int) ≤ _; omega⟩, rfl, rfl, fun i hi => by have : (i : Int) < 0 := hi; omega⟩ (by show xs.length - 0 < _; omega)
  · obtain ⟨r, h1, h2⟩ := this; rw [h1, h2]
  · obtain ⟨k, j, a⟩ := v
    obtain ⟨⟨h1, h2⟩, h3, h4, h5⟩ := hv
    simp only at h1 h2 h3 h4 h5
    obtain ⟨i, rfl⟩ := Int.eq_ofNat_of_zero_le h1
    simp only [Int.ofNat_eq_natCast] at *
    show ∃ r, w_markIntS_L1b go k (i : Int) a = some r ∧ _
    unfold w_markIntS_L1b
    by_cases hi : i < xs.length
    · rw [if_pos (by omega), nth_lt (by omega), bnd_eq, chk_t (by omega), chk_t (by omega), Int.toNat_natCast]
      refine hgo (k + 1, (i : Int) + 1, a.set i k) ⟨⟨by show (0 : Int) ≤ (i : Int) + 1; omega, by show (i : Int) + 1 ≤ _; omega⟩, by show k + 1 = 1 + ((i : Int) + 1); omega, by simpa using h4, fun m hm => ?_⟩ (by show xs.length - ((i : Int) + 1).toNat < xs.length - (i : Int).toNat; omega)
      have hm' : (m : Int) < (i : Int) + 1 := hm
      show (a.set i k)[m]? = _
      by_cases e : i = m
      · subst e
        rw [List.getElem?_set_self (by omega), h3]
      · rw [List.getElem?_set_ne e]
        exact h5 m (by omega)
    · have : i = xs.length := by omega
      subst this
      rw [if_neg (by omega)]
      refine ⟨_, rfl, ?_⟩
      rw [h3]
      congr 1
      refine List.ext_getElem? fun m => ?_
      by_cases hm : m < xs.length
      · rw [h5 m (by omega), nums_get _ _ m hm]
      · rw [List.getElem?_eq_none (by omega), List.getElem?_eq_none (by rw [nums_len]; omega)]
theorem heldIntS_nums (n : Nat) (hn : n ≤ 1048576) : w_heldIntS (nums 1 n) 1 = some (1 + (n : Int)) := by
  unfold w_heldIntS
  have := itr_exLF (L := w_heldIntS_L1 (nums 1 n)) (fun r => r = 1 + (n : Int)) (fun v => (0 ≤ v.2 ∧ v.2 ≤ n) ∧ v.1 = 1 + v.2) (fun v => n - v.2.toNat) (fun go v hv hgo => ?_) (1, 0) ⟨⟨by show (0:Int) ≤ 0; omega, by show (0 : Int) ≤ _; omega⟩, rfl⟩ (by show n - 0 < _; omega)
  · obtain ⟨r, h1, h2⟩ := this; rw [h1, h2]
  · obtain ⟨k, j⟩ := v
    obtain ⟨⟨h1, h2⟩, h3⟩ := hv
    simp only at h1 h2 h3
    obtain ⟨i, rfl⟩ := Int.eq_ofNat_of_zero_le h1
    simp only [Int.ofNat_eq_natCast] at *
    show ∃ r, w_heldIntS_L1b (nums 1 n) go k (i : Int) = some r ∧ _
    unfold w_heldIntS_L1b
    rw [nums_len]
    by_cases hi : i < n
    · rw [if_pos (by omega), nth_nat, nums_get n 1 i hi, bnd_eq, if_pos (by omega), chk_t (by omega), chk_t (by omega)]
      exact hgo (k + 1, (i : Int) + 1) ⟨⟨by show (0 : Int) ≤ (i : Int) + 1; omega, by show (i : Int) + 1 ≤ _; omega⟩, by show k + 1 = 1 + ((i : Int) + 1); omega⟩ (by show n - ((i : Int) + 1).toNat < n - (i : Int).toNat; omega)
    · rw [if_neg (by omega)]
      exact ⟨_, rfl, by omega⟩
end Go.Abs
