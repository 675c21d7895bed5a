/-
  Plain: what the made programs of images come to.
-/
import Derived.Test.YtmgigglpdhoneaaDoorPsD
set_option linter.unusedVariables false
set_option linter.unusedSimpArgs false
namespace Go.Abs

def okOne (m : PImage) (k : Nat) : Bool := codeOKs false m k && (depthsOf m k).isSome
def okFrom (m : PImage) (k : Nat) : Bool := (List.range' k (m.codes.length - k)).all (okOne m)
theorem okFrom_0 (m : PImage) : okFrom m 0 = codesOK m := by unfold okFrom codesOK; rw [List.range_eq_range']; rfl
theorem okFrom_succ {m : PImage} {k : Nat} (h : k < m.codes.length) : okFrom m k = (okOne m k && okFrom m (k + 1)) := by
  unfold okFrom
  rw [show m.codes.length - k = (m.codes.length - (k + 1)) + 1 by omega, List.range'_succ, List.all_cons]
theorem okFrom_end (m : PImage) : okFrom m m.codes.length = true := by unfold okFrom; simp
def addT (n : Int) (cs : List PCode) : Int := cs.foldl (fun n c => n + (c.instrs.length : Int)) n
theorem bumpIs_low : ∀ (xs : List PInstr) {b : Int} {t : List Int}, low b t → 0 ≤ b → low (b + xs.length) (bumpIs xs t)
  | [], b, t, h, _ => by simpa [bumpIs] using h
  | x :: xs, b, t, h, hb => by
    have h1 := bumpIs_low xs (bumpI_low h hb x) (by omega)
    show low _ (bumpIs xs (bumpI t x))
    rw [show b + ((x :: xs).length : Int) = b + 1 + (xs.length : Int) by simp; omega]
    exact h1
theorem insOK'_of {m : PImage} {c : PCode} (h : ∀ x ∈ c.instrs, InsOK m x) : ∀ x ∈ c.instrs, InsOK' m.codes.length x := fun x hx hn => ⟨(h x hx).a.1, (h x hx).named hn⟩
theorem low_mono {b b' : Int} {t : List Int} (h : low b t) (hb : b ≤ b') : low b' t := fun v hv => by have := h v hv; omega
theorem low_zero (n : Nat) : low 0 (List.replicate n 0) := fun v hv => by rw [List.eq_of_mem_replicate hv]; omega

theorem dres_snd (o : Option (List Int)) : (dres o).2 = o.isSome := by cases o <;> rfl

/-- What is left of the program's loop over the codes. -/
def imgRest (m : PImage) (total : Int) (k : Nat) (t : List Int) : Bool :=
  okFrom m k && (((bumpCs (m.codes.drop k) t).take (m.codes.length - 1)).all (fun n => decide (n = 1)) && decide (addT total (m.codes.drop k) ≤ 16000))

theorem i_loop_eq (m : PImage) (hm : m.small) (hn : 1 ≤ m.codes.length ∧ m.codes.length ≤ 1500) : itr (i_IsImage_L1 m) LF (0, 0, List.replicate m.codes.length 0) = some (imgRest m 0 0 (List.replicate m.codes.length 0)) := by
  refine itr_LF (fun v : Int × Int × List Int => some (imgRest m v.1 v.2.1.toNat v.2.2)) (fun v => (0 ≤ v.2.1 ∧ v.2.1 ≤ m.codes.length) ∧ (∀ i : Nat, (i : Int) < v.2.1 → codeOKs false m i = true) ∧ (0 ≤ v.1 ∧ v.1 ≤ 4000 * v.2.1) ∧ v.2.2.length = m.codes.length ∧ low (4000 * v.2.1) v.2.2) (fun v => m.codes.length - v.2.1.toNat) (fun go v hv hgo => ?_) (0, 0, List.replicate m.codes.length 0) ⟨⟨by simp, by simp⟩, fun i hi => by dsimp only at hi; omega, ⟨by simp, by simp⟩, by simp, by simpa using low_zero _⟩ (by simp; omega)
  obtain ⟨total, k0, t⟩ := v
  obtain ⟨⟨hk0, hk1⟩, hok, ht, hl, hlow⟩ := hv
  dsimp only at hk0 hk1 hok ht hl hlow ⊢
  obtain ⟨k, rfl⟩ := Int.eq_ofNat_of_zero_le hk0
  rw [Int.toNat_natCast]
  show i_IsImage_L1b m go total k t = _
  unfold i_IsImage_L1b
  by_cases hk : (k : Int) < m.codes.length
  · have hkn : k < m.codes.length := by omega
    have hcs := hm.2 _ (getD_mem (d := default) hkn)
    have hdrop : m.codes.drop k = m.codes.getD k default :: m.codes.drop (k + 1) := drop_cons hkn
    rw [if_pos hk, nth_getN (d := default) hkn, bnd_eq, i_codeOk_eq m k hm hkn, bnd_eq]
    unfold imgRest
    rw [okFrom_succ hkn]
    unfold okOne
    cases hc : codeOKs false m k
    · rw [if_neg (by simp)]; simp
    · have hall : ∀ i, i ≤ k → codeOKs false m i = true := fun i hi => by
        by_cases e : i = k
        · subst e; exact hc
        · exact hok i (by omega)
      have hlen := code_len hc
      have hins := insOK_of hkn hall
      rw [if_pos rfl, i_depthsOf_eq m k hkn hlen.1 hlen.2 hins, bnd_eq, dres_snd]
      cases hd : (depthsOf m k).isSome
      · rw [if_neg (by simp)]; simp
      · rw [if_pos rfl, chk_t (by omega), hdrop]
        rw [i_count_eq total k go (m.codes.getD k default) m.codes.length (4000 * k) (by omega) (by omega) hlen.2 (insOK'_of hins) t hl hlow]
        have hb := bumpIs_low (m.codes.getD k default).instrs hlow (by omega)
        rw [hgo (total + ((m.codes.getD k default).instrs.length : Int), (k : Int) + 1, bumpIs (m.codes.getD k default).instrs t)
          ⟨⟨by dsimp only; omega, by dsimp only; omega⟩, fun i hi => hall i (by dsimp only at hi; omega), ⟨by dsimp only; omega, by dsimp only; omega⟩, by dsimp only; rw [bumpIs_len]; exact hl, low_mono hb (by dsimp only; omega)⟩ (by dsimp only; omega)]
        dsimp only
        rw [show ((k : Int) + 1).toNat = k + 1 by omega]
        unfold imgRest
        simp only [Bool.true_and]
        rfl
  · have hkn : k = m.codes.length := by omega
    subst hkn
    rw [if_neg hk, chk_t (by omega), chk_t (by omega)]
    unfold imgRest
    rw [okFrom_end, List.drop_length, Bool.true_and]
    have e : ((m.codes.length : Int) - 1).toNat = m.codes.length - 1 := by omega
    show itr (i_IsImage_L4 m total t) LF 0 = some (((t.take (m.codes.length - 1)).all fun n => decide (n = 1)) && decide (total ≤ 16000))
    rw [itr_all (L := i_IsImage_L4 m total t) (t.take (m.codes.length - 1)) (fun n => decide (n = 1)) (some (decide (total ≤ 16000))) (some false) (by simp; omega) (fun go i hi => ?_) (fun go => ?_)]
    · cases ((t.take (m.codes.length - 1)).all fun n => decide (n = 1)) <;> simp
    · show i_IsImage_L4b m total t go i = _
      unfold i_IsImage_L4b
      have hi' := hi
      rw [List.length_take] at hi'
      rw [e, if_pos (by rw [List.length_take]; omega), nth_lt hi, bnd_eq, chk_t (by omega)]
      by_cases h1 : (t.take (m.codes.length - 1))[i] = 1 <;> simp [h1]
    · show i_IsImage_L4b m total t go _ = _
      unfold i_IsImage_L4b
      rw [e, if_neg (by omega)]
theorem i_IsImage_eq (m : PImage) (hm : m.small) (captures : Int) : i_IsImage m captures = some (isImg m captures) := by
  unfold i_IsImage isImg inside
  by_cases h1 : (m.codes.length : Int) < 1
  · have : decide (1 ≤ (m.codes.length : Int)) = false := by simp; omega
    rw [if_pos h1, this]; rfl
  · have h1' : decide (1 ≤ (m.codes.length : Int)) = true := by simp; omega
    by_cases h2 : (m.codes.length : Int) > 1500
    · have : decide ((m.codes.length : Int) ≤ 1500) = false := by simp; omega
      rw [if_neg h1, if_pos h2, h1', this]; rfl
    · have h2' : decide ((m.codes.length : Int) ≤ 1500) = true := by simp; omega
      rw [if_neg h1, if_neg h2, h1', h2', chk_t (by omega), chk_t (by omega), chk_t (by omega)]
      rw [nth_getD (d := default) (by omega) (by omega), bnd_eq, bnd_eq, chk_t (by omega), show ((m.codes.length : Int) - 1).toNat = m.codes.length - 1 by omega, Int.toNat_natCast, i_loop_eq m hm (by omega)]
      by_cases h3 : m.main = (m.codes.length : Int) - 1
      · rw [if_pos h3]
        by_cases h4 : (m.codes.getD (m.codes.length - 1) default).params = 0
        · rw [if_pos h4]
          by_cases h5 : (m.codes.getD (m.codes.length - 1) default).captures = captures
          · rw [if_pos h5]
            unfold imgRest
            rw [okFrom_0, List.drop_zero]
            simp only [h3, h4, h5, decide_true, Bool.true_and]
            congr 2
            exact Bool.and_comm _ _
          · rw [if_neg h5]; simp only [h5, decide_false, Bool.and_false, Bool.false_and]
        · rw [if_neg h4]; simp only [h4, decide_false, Bool.and_false, Bool.false_and]
      · rw [if_neg h3]; simp only [h3, decide_false, Bool.and_false, Bool.false_and]

/-! ### The reference -/
theorem s_tree_eq (m : PImage) (hm : m.small) (hn : 1 ≤ m.codes.length ∧ m.codes.length ≤ 1500) (hmain : m.main = (m.codes.length : Int) - 1) (hall : ∀ i, i < m.codes.length → codeOKs false m i = true) : s_l10Tree m = some (onceOK m) := by
  unfold s_l10Tree
  rw [chk_t (by omega), Int.toNat_natCast]
  unfold onceOK
  rw [itr_idxA (L := s_l10Tree_L1 m) m.codes.length (fun k t => t.length = m.codes.length ∧ low (4000 * k) t) (fun k t => some (((bumpCs (m.codes.drop k) t).take (m.codes.length - 1)).all fun n => decide (n = 1))) (by omega) (fun go k t hk ht hgo => ?_) (fun go t ht => ?_) ⟨by simp, by simpa using low_zero _⟩]
  · rw [List.drop_zero]
  · show s_l10Tree_L1b m go k t = _
    unfold s_l10Tree_L1b
    have hdrop : m.codes.drop k = m.codes.getD k default :: m.codes.drop (k + 1) := drop_cons hk
    have hlen := code_len (hall k hk)
    have hins := insOK_of hk (fun i hi => hall i (by omega))
    rw [if_pos (by omega), nth_getN (d := default) hk, bnd_eq, s_count_eq k go (m.codes.getD k default) m.codes.length (4000 * k) (by omega) (by omega) hlen.2 (insOK'_of hins) t ht.1 ht.2, hdrop]
    have hb := bumpIs_low (m.codes.getD k default).instrs ht.2 (by omega)
    rw [hgo _ ⟨by rw [bumpIs_len]; exact ht.1, low_mono hb (by omega)⟩]
    rfl
  · show s_l10Tree_L1b m go _ t = _
    unfold s_l10Tree_L1b
    rw [if_neg (by omega), List.drop_length]
    show itr (s_l10Tree_L4 m t) LF 0 = some ((t.take (m.codes.length - 1)).all fun n => decide (n = 1))
    rw [itr_idx (L := s_l10Tree_L4 m t) t.length (fun i => some (((t.take (m.codes.length - 1)).drop i).all fun n => decide (n = 1))) (by omega) (fun go i hi hgo => ?_) (fun go => ?_)]
    · rw [List.drop_zero]
    · show s_l10Tree_L4b m t go i = _
      unfold s_l10Tree_L4b s_l10Tree_J5
      rw [if_pos (by omega), nth_lt hi, bnd_eq, chk_t (by omega)]
      by_cases h1 : t[i] = 1
      · rw [if_pos h1, if_neg (by simp), hgo]
        by_cases h2 : i < m.codes.length - 1
        · have hi2 : i < (t.take (m.codes.length - 1)).length := by rw [List.length_take]; omega
          rw [List.drop_eq_getElem_cons hi2, List.all_cons]
          simp [h1]
        · rw [List.drop_eq_nil_of_le (by rw [List.length_take]; omega), List.drop_eq_nil_of_le (by rw [List.length_take]; omega)]
      · rw [if_neg h1]
        by_cases h2 : (i : Int) = m.main
        · simp only [h2, decide_true, Bool.not_true, Bool.false_eq_true, if_false]
          rw [← h2, hgo, List.drop_eq_nil_of_le (by rw [List.length_take]; omega), List.drop_eq_nil_of_le (by rw [List.length_take]; omega)]
        · simp only [h2, decide_false, Bool.not_false, if_true]
          have hi2 : i < (t.take (m.codes.length - 1)).length := by rw [List.length_take]; omega
          rw [List.drop_eq_getElem_cons hi2, List.all_cons]
          simp [h1]
    · show s_l10Tree_L4b m t go _ = _
      unfold s_l10Tree_L4b
      rw [if_neg (by omega), List.drop_eq_nil_of_le (by rw [List.length_take]; omega)]
      rfl

def sRest (m : PImage) (total : Int) (k : Nat) : Bool := okFrom m k && (decide (addT total (m.codes.drop k) ≤ 16000) && onceOK m)
theorem s_loop_eq (m : PImage) (hm : m.small) (hn : 1 ≤ m.codes.length ∧ m.codes.length ≤ 1500) (hmain : m.main = (m.codes.length : Int) - 1) : itr (s_IsImage_L1 m) LF (0, 0) = some (sRest m 0 0) := by
  refine itr_LF (fun v : Int × Int => some (sRest m v.1 v.2.toNat)) (fun v => (0 ≤ v.2 ∧ v.2 ≤ m.codes.length) ∧ (∀ i : Nat, (i : Int) < v.2 → codeOKs false m i = true) ∧ (0 ≤ v.1 ∧ v.1 ≤ 4000 * v.2)) (fun v => m.codes.length - v.2.toNat) (fun go v hv hgo => ?_) (0, 0) ⟨⟨by simp, by simp⟩, fun i hi => by dsimp only at hi; omega, by simp, by simp⟩ (by simp; omega)
  obtain ⟨total, k0⟩ := v
  obtain ⟨⟨hk0, hk1⟩, hok, ht⟩ := hv
  dsimp only at hk0 hk1 hok ht ⊢
  obtain ⟨k, rfl⟩ := Int.eq_ofNat_of_zero_le hk0
  rw [Int.toNat_natCast]
  show s_IsImage_L1b m go total k = _
  unfold s_IsImage_L1b
  by_cases hk : (k : Int) < m.codes.length
  · have hkn : k < m.codes.length := by omega
    have hdrop : m.codes.drop k = m.codes.getD k default :: m.codes.drop (k + 1) := drop_cons hkn
    rw [if_pos hk, s_l10Code_eq m k hm hkn, bnd_eq, codeOK_same (fun i hi => hok i (by omega)), nth_getN (d := default) hkn]
    unfold sRest
    rw [okFrom_succ hkn]
    unfold okOne
    cases hc : codeOKs false m k
    · rw [if_neg (by simp)]; simp
    · have hall : ∀ i, i ≤ k → codeOKs false m i = true := fun i hi => by
        by_cases e : i = k
        · subst e; exact hc
        · exact hok i (by omega)
      have hlen := code_len hc
      have hins := insOK_of hkn hall
      rw [if_pos rfl, s_l10Depths_eq m k hkn hlen.1 hlen.2 hins, bnd_eq, dres_snd]
      cases hd : (depthsOf m k).isSome
      · rw [if_neg (by simp)]; simp
      · rw [if_pos rfl, bnd_eq, chk_t (by omega), chk_t (by omega), hdrop]
        rw [hgo (total + ((m.codes.getD k default).instrs.length : Int), (k : Int) + 1) ⟨⟨by dsimp only; omega, by dsimp only; omega⟩, fun i hi => hall i (by dsimp only at hi; omega), by dsimp only; omega, by dsimp only; omega⟩ (by dsimp only; omega)]
        dsimp only
        rw [show ((k : Int) + 1).toNat = k + 1 by omega]
        unfold sRest
        simp only [Bool.true_and]
        rfl
  · have hkn : k = m.codes.length := by omega
    subst hkn
    rw [if_neg hk]
    unfold sRest
    rw [okFrom_end, List.drop_length, Bool.true_and]
    show (if total ≤ 16000 then _ else _) = some (decide (total ≤ 16000) && onceOK m)
    by_cases h1 : total ≤ 16000
    · rw [if_pos h1, s_tree_eq m hm hn hmain (fun i hi => hok i (by omega)), bnd_eq]; simp [h1]
    · rw [if_neg h1]; simp [h1]
theorem s_IsImage_eq (m : PImage) (hm : m.small) (captures : Int) : s_IsImage m captures = some (isImg m captures) := by
  have hm1 := hm.1
  unfold s_IsImage isImg
  rw [s_l1In_eq, bnd_eq, chk_t (by omega)]
  cases h1 : inside m.codes.length 1 1500
  · rfl
  · have h1' : 1 ≤ m.codes.length ∧ m.codes.length ≤ 1500 := by
      unfold inside at h1
      simp only [Bool.and_eq_true, decide_eq_true_eq] at h1
      omega
    rw [if_pos rfl]
    by_cases h3 : m.main = (m.codes.length : Int) - 1
    · rw [if_pos h3, h3, nth_getD (d := default) (by omega) (by omega), bnd_eq, bnd_eq, show ((m.codes.length : Int) - 1).toNat = m.codes.length - 1 by omega, s_loop_eq m hm h1' h3]
      by_cases h4 : (m.codes.getD (m.codes.length - 1) default).params = 0
      · rw [if_pos h4]
        by_cases h5 : (m.codes.getD (m.codes.length - 1) default).captures = captures
        · rw [if_pos h5]
          unfold sRest
          rw [okFrom_0, List.drop_zero]
          simp only [h4, h5, decide_true, Bool.true_and]
          rfl
        · rw [if_neg h5]; simp only [h5, decide_false, Bool.and_false, Bool.false_and]
      · rw [if_neg h4]; simp only [h4, decide_false, Bool.and_false, Bool.false_and]
    · rw [if_neg h3]; simp only [h3, decide_false, Bool.and_false, Bool.false_and]
end Go.Abs
