/-
  Plain: images as lines; lines compared, marked, held.
-/
import Derived.Test.YtmgigglpdhoneaaDoorPsH
set_option linter.unusedVariables false
set_option linter.unusedSimpArgs false
namespace Go.Abs
open Go.Lib (itoa)

/-! ### Lines of text -/
abbrev LL := List (List UInt8)
theorem eqStringS_refl (xs : LL) (h : xs.length ≤ 1048576) : w_eqStringS xs xs = some true := by
  unfold w_eqStringS
  exact eqS_refl' (L := w_eqStringS_L1 xs xs) xs h (fun go i => rfl)
def mtx (i : Nat) : List UInt8 := (w_markText (1 + (i : Int))).getD []
theorem mtx_eq (i : Nat) (h : i ≤ 1048576) (k : Int) (hk : k = 1 + (i : Int)) : w_markText k = some (mtx i) := by
  obtain ⟨t, ht⟩ := markText_some k (by omega)
  unfold mtx; rw [← hk, ht]; rfl
theorem markStringS_some (xs : LL) (hn : xs.length ≤ 1048576) : ∃ a', w_markStringS xs 1 = some (1 + (xs.length : Int), a') ∧ a'.length = xs.length ∧ ∀ i : Nat, i < xs.length → a'[i]? = some (mtx i) := by
  unfold w_markStringS
  have := itr_exLF (L := w_markStringS_L1) (fun r => ∃ a', r = (1 + (xs.length : Int), a') ∧ a'.length = xs.length ∧ ∀ i : Nat, i < xs.length → a'[i]? = some (mtx i)) (fun v => (0 ≤ v.2.1 ∧ v.2.1 ≤ xs.length) ∧ v.1 = 1 + v.2.1 ∧ v.2.2.length = xs.length ∧ ∀ i : Nat, (i : Int) < v.2.1 → v.2.2[i]? = some (mtx i)) (fun v => xs.length - v.2.1.toNat) (fun go v hv hgo => ?_) (1, 0, xs) ⟨⟨by show (0:Int) ≤ 0; omega, by show (0 : Int) ≤ _; omega⟩, rfl, rfl, fun i hi => by have : (i : Int) < 0 := hi; omega⟩ (by show xs.length - 0 < _; omega)
  · obtain ⟨r, h1, a', h2, h3⟩ := this; exact ⟨a', by rw [h1, h2], h3⟩
  · obtain ⟨k, j, a⟩ := v
    obtain ⟨⟨h1, h2⟩, h3, h4, h5⟩ := hv
    simp only at h1 h2 h3 h4 h5
    obtain ⟨i, rfl⟩ := Int.eq_ofNat_of_zero_le h1
    simp only [Int.ofNat_eq_natCast] at *
    show ∃ r, w_markStringS_L1b go k (i : Int) a = some r ∧ _
    unfold w_markStringS_L1b
    by_cases hi : i < xs.length
    · rw [if_pos (by omega), mtx_eq i (by omega) k h3, bnd_eq, nth_lt (by omega), bnd_eq, chk_t (by omega), chk_t (by omega), Int.toNat_natCast]
      refine hgo (k + 1, (i : Int) + 1, a.set i (mtx i)) ⟨⟨by show (0 : Int) ≤ (i : Int) + 1; omega, by show (i : Int) + 1 ≤ _; omega⟩, by show k + 1 = 1 + ((i : Int) + 1); omega, by simpa using h4, fun m hm => ?_⟩ (by show xs.length - ((i : Int) + 1).toNat < xs.length - (i : Int).toNat; omega)
      have hm' : (m : Int) < (i : Int) + 1 := hm
      show (a.set i (mtx i))[m]? = _
      by_cases e : i = m
      · subst e
        rw [List.getElem?_set_self (by omega)]
      · rw [List.getElem?_set_ne e]
        exact h5 m (by omega)
    · have : i = xs.length := by omega
      subst this
      rw [if_neg (by omega)]
      exact ⟨_, rfl, _, by rw [h3], h4, fun m hm => h5 m (by omega)⟩
theorem heldStringS_eq (a : LL) (hn : a.length ≤ 1048576) (h : ∀ i : Nat, i < a.length → a[i]? = some (mtx i)) : w_heldStringS a 1 = some (1 + (a.length : Int)) := by
  unfold w_heldStringS
  have := itr_exLF (L := w_heldStringS_L1 a) (fun r => r = 1 + (a.length : Int)) (fun v => (0 ≤ v.2 ∧ v.2 ≤ a.length) ∧ v.1 = 1 + v.2) (fun v => a.length - v.2.toNat) (fun go v hv hgo => ?_) (1, 0) ⟨⟨by show (0:Int) ≤ 0; omega, by show (0 : Int) ≤ _; omega⟩, rfl⟩ (by show a.length - 0 < _; omega)
  · obtain ⟨r, h1, h2⟩ := this; rw [h1, h2]
  · obtain ⟨k, j⟩ := v
    obtain ⟨⟨h1, h2⟩, h3⟩ := hv
    simp only at h1 h2 h3
    obtain ⟨i, rfl⟩ := Int.eq_ofNat_of_zero_le h1
    simp only [Int.ofNat_eq_natCast] at *
    show ∃ r, w_heldStringS_L1b a go k (i : Int) = some r ∧ _
    unfold w_heldStringS_L1b
    by_cases hi : i < a.length
    · rw [if_pos (by omega), nth_nat, h i hi, bnd_eq, mtx_eq i (by omega) k h3, bnd_eq, if_pos rfl, chk_t (by omega), chk_t (by omega)]
      exact hgo (k + 1, (i : Int) + 1) ⟨⟨by show (0 : Int) ≤ (i : Int) + 1; omega, by show (i : Int) + 1 ≤ _; omega⟩, by show k + 1 = 1 + ((i : Int) + 1); omega⟩ (by show a.length - ((i : Int) + 1).toNat < a.length - (i : Int).toNat; omega)
    · rw [if_neg (by omega)]
      exact ⟨_, rfl, by omega⟩

/-! ### The lines of an image -/
def fiT (x : PInstr) : List UInt8 := (i_FormatInstr x).getD []
theorem fiT_eq {x : PInstr} (hw : wD x.d ≤ 1048576) : i_FormatInstr x = some (fiT x) ∧ s_FormatInstr x = some (fiT x) := by
  obtain ⟨t, e1, e2, _⟩ := FormatInstr_eq x hw
  have : fiT x = t := by unfold fiT; rw [e1]; rfl
  rw [this]; exact ⟨e1, e2⟩
def headT (c : PCode) : List UInt8 := [99, 111, 100, 101, 32] ++ itoa c.params ++ [32] ++ itoa c.slots ++ [32] ++ itoa c.captures
def codeT (c : PCode) : LL := headT c :: c.instrs.map fiT
def linesT (cs : List PCode) : LL := cs.flatMap codeT
theorem linesT_cons (c : PCode) (r : List PCode) : linesT (c :: r) = codeT c ++ linesT r := by unfold linesT; rw [List.flatMap_cons]
theorem linesT_len : ∀ cs : List PCode, (linesT cs).length ≤ wts wC cs
  | [] => by simp [linesT]
  | c :: r => by
    have h := linesT_len r
    rw [linesT_cons]
    have h1 : wts wC (c :: r) = 1 + wC c + wts wC r := by unfold wts; simp; omega
    have h2 : wC c = c.instrs.length + (c.instrs.map wI).sum := rfl
    rw [h1, List.length_append]
    unfold codeT
    simp only [List.length_cons, List.length_map]
    omega
/-- Numbers that a code's first line may hold. -/
def numsOK (c : PCode) : Prop := (-999999999 ≤ c.params ∧ c.params ≤ 999999999) ∧ (-999999999 ≤ c.slots ∧ c.slots ≤ 999999999) ∧ (-999999999 ≤ c.captures ∧ c.captures ≤ 999999999)
theorem isImg_nums {m : PImage} {n : Int} (h : isImg m n = true) : ∀ c ∈ m.codes, numsOK c := by
  intro c hc
  unfold isImg at h
  simp only [Bool.and_eq_true] at h
  have hk := h.2.2.2.2.1
  obtain ⟨k, hk1, hk2⟩ := List.getElem_of_mem hc
  unfold codesOK at hk
  have h1 := List.all_eq_true.1 hk k (List.mem_range.2 hk1)
  rw [Bool.and_eq_true] at h1
  have h2 := h1.1
  unfold codeOKs at h2
  rw [Bool.and_eq_true] at h2
  have h3 := h2.1
  have e : m.codes.getD k default = c := by simp [List.getD, List.getElem?_eq_getElem hk1, hk2]
  rw [e] at h3
  unfold headOK inside at h3
  simp only [Bool.and_eq_true, decide_eq_true_eq] at h3
  unfold numsOK
  omega
theorem lines_inner {FI : PInstr → Option (List UInt8)} {L : (Int × LL → Option LL) → Int × LL → Option LL} (c : PCode) (k : LL → Option LL) (N : Nat) (hN : N ≤ 100000000) (hI : ∀ x ∈ c.instrs, FI x = some (fiT x)) (out : LL) (ho : out.length + c.instrs.length ≤ N)
    (hL : ∀ go (x9 : Int) (out10 : LL), L go (x9, out10) = if x9 < (c.instrs.length : Int) then
      bnd (nth c.instrs x9) fun x12 => bnd (FI x12) fun x13 => chk ((out10.length + ([x13] : LL).length) * 16 ≤ 140737488355328) <| chk (I64 (x9 + 1)) <| go ((x9 + 1), (out10 ++ ([x13] : LL)))
    else k out10) : itr L LF (0, out) = k (out ++ c.instrs.map fiT) := by
  rw [itr_idxA (L := L) c.instrs.length (fun i a => a.length = out.length + i) (fun i a => k (a ++ (c.instrs.drop i).map fiT)) (by omega) (fun go i a hi ha hgo => ?_) (fun go a ha => ?_) (by simp)]
  · rfl
  · rw [hL, if_pos (by omega), nth_lt hi, bnd_eq, hI _ (List.getElem_mem hi), bnd_eq, chk_t (by simp; omega), chk_t (show -9223372036854775808 ≤ (i : Int) + 1 ∧ (i : Int) + 1 ≤ 9223372036854775807 by omega), hgo _ (by simp; omega), List.drop_eq_getElem_cons hi, List.map_cons]
    simp
  · rw [hL, if_neg (by omega), List.drop_length]; simp
theorem lines_outer {FN : Int → Option (List UInt8)} {FI : PInstr → Option (List UInt8)} {L1 : (Int × LL → Option LL) → Int × LL → Option LL} {L2 : Int → (Int × LL → Option LL) → PCode → (Int × LL → Option LL) → Int × LL → Option LL} (m : PImage) (hw : wM m ≤ 1048576)
    (hn : ∀ c ∈ m.codes, numsOK c) (hI : ∀ c ∈ m.codes, ∀ x ∈ c.instrs, FI x = some (fiT x)) (hN : ∀ n : Int, -999999999 ≤ n ∧ n ≤ 999999999 → FN n = some (itoa n))
    (hL2 : ∀ (x2 : Int) go4 (c : PCode) go (x9 : Int) (out10 : LL), L2 x2 go4 c go (x9, out10) = if x9 < (c.instrs.length : Int) then
      bnd (nth c.instrs x9) fun x12 => bnd (FI x12) fun x13 => chk ((out10.length + ([x13] : LL).length) * 16 ≤ 140737488355328) <| chk (I64 (x9 + 1)) <| go ((x9 + 1), (out10 ++ ([x13] : LL)))
    else chk (I64 (x2 + 1)) <| go4 ((x2 + 1), out10))
    (hL1 : ∀ go4 (x2 : Int) (out3 : LL), L1 go4 (x2, out3) = if x2 < (m.codes.length : Int) then
      bnd (nth m.codes x2) fun x5 =>
      bnd (FN x5.params) fun x6 =>
      chk (([99, 111, 100, 101, 32] : List UInt8).length + x6.length ≤ 9223372036854775807) <|
      chk ((([99, 111, 100, 101, 32] : List UInt8) ++ x6).length + ([32] : List UInt8).length ≤ 9223372036854775807) <|
      bnd (FN x5.slots) fun x7 =>
      chk (((([99, 111, 100, 101, 32] : List UInt8) ++ x6) ++ ([32] : List UInt8)).length + x7.length ≤ 9223372036854775807) <|
      chk ((((([99, 111, 100, 101, 32] : List UInt8) ++ x6) ++ ([32] : List UInt8)) ++ x7).length + ([32] : List UInt8).length ≤ 9223372036854775807) <|
      bnd (FN x5.captures) fun x8 =>
      chk (((((([99, 111, 100, 101, 32] : List UInt8) ++ x6) ++ ([32] : List UInt8)) ++ x7) ++ ([32] : List UInt8)).length + x8.length ≤ 9223372036854775807) <|
      chk ((out3.length + ([(((((([99, 111, 100, 101, 32] : List UInt8) ++ x6) ++ ([32] : List UInt8)) ++ x7) ++ ([32] : List UInt8)) ++ x8)] : List (List UInt8)).length) * 16 ≤ 140737488355328) <|
      itr (L2 x2 go4 x5) LF (0, (out3 ++ ([(((((([99, 111, 100, 101, 32] : List UInt8) ++ x6) ++ ([32] : List UInt8)) ++ x7) ++ ([32] : List UInt8)) ++ x8)] : List (List UInt8))))
    else some out3) : itr L1 LF (0, []) = some (linesT m.codes) := by
  have hm : wM m = wts wC m.codes := rfl
  have hcl : m.codes.length ≤ wts wC m.codes := by unfold wts; omega
  have htot := linesT_len m.codes
  rw [itr_idxA (L := L1) m.codes.length (fun i a => a.length + (linesT (m.codes.drop i)).length = (linesT m.codes).length) (fun i a => some (a ++ linesT (m.codes.drop i))) (by omega) (fun go i a hi ha hgo => ?_) (fun go a ha => ?_) (by simp)]
  · simp
  · have hc := List.getElem_mem hi
    obtain ⟨n1, n2, n3⟩ := hn _ hc
    have l1 := itoa_len _ n1
    have l2 := itoa_len _ n2
    have l3 := itoa_len _ n3
    rw [List.drop_eq_getElem_cons hi, linesT_cons] at ha ⊢
    have hcd : (codeT m.codes[i]).length = 1 + m.codes[i].instrs.length := by unfold codeT; simp; omega
    rw [List.length_append, hcd] at ha
    rw [hL1, if_pos (by omega), nth_lt hi, bnd_eq, hN _ n1, bnd_eq, chk_t (by simp; omega), chk_t (by simp; omega), hN _ n2, bnd_eq, chk_t (by simp; omega), chk_t (by simp; omega), hN _ n3, bnd_eq, chk_t (by simp; omega), chk_t (by simp; omega)]
    rw [lines_inner (L := L2 (i : Int) go m.codes[i]) (FI := FI) m.codes[i] (fun o => chk (I64 ((i : Int) + 1)) <| go (((i : Int) + 1), o)) 100000000 (Nat.le_refl _) (hI _ hc) _ (by simp; omega) (fun go' x9 o => hL2 _ _ _ _ _ _)]
    rw [chk_t (show -9223372036854775808 ≤ (i : Int) + 1 ∧ (i : Int) + 1 ≤ 9223372036854775807 by omega), hgo _ (by simp; omega)]
    unfold codeT headT
    simp
  · rw [hL1, if_neg (by omega), List.drop_length]; simp [linesT]
theorem wM_instr {m : PImage} (hw : wM m ≤ 1048576) {c : PCode} (hc : c ∈ m.codes) {x : PInstr} (hx : x ∈ c.instrs) : wD x.d ≤ 1048576 := by
  have h1 := wsum_mem (wt := wC) hc
  have h2 := wsum_mem (wt := wI) hx
  have e1 : wM m = m.codes.length + wsum wC m.codes := rfl
  have e2 : wC c = c.instrs.length + wsum wI c.instrs := rfl
  have e3 : wI x = wD x.d := rfl
  omega
theorem i_imageLines_eq (m : PImage) (hw : wM m ≤ 1048576) (hn : ∀ c ∈ m.codes, numsOK c) : i_imageLines m = some (linesT m.codes) := by
  unfold i_imageLines
  exact lines_outer (FN := i_FormatNumber) (FI := i_FormatInstr) (L1 := i_imageLines_L1 m) (L2 := i_imageLines_L2) m hw hn (fun c hc x hx => (fiT_eq (wM_instr hw hc hx)).1) (fun n h => i_FormatNumber_eq n h) (fun x2 go4 c go x9 o => rfl) (fun go4 x2 o => rfl)
theorem s_l10Lines_eq (m : PImage) (hw : wM m ≤ 1048576) (hn : ∀ c ∈ m.codes, numsOK c) : s_l10Lines m = some (linesT m.codes) := by
  unfold s_l10Lines
  exact lines_outer (FN := s_FormatNumber) (FI := s_FormatInstr) (L1 := s_l10Lines_L1 m) (L2 := s_l10Lines_L2) m hw hn (fun c hc x hx => (fiT_eq (wM_instr hw hc hx)).2) (fun n h => s_FormatNumber_eq n h) (fun x2 go4 c go x9 o => rfl) (fun go4 x2 o => rfl)
end Go.Abs
