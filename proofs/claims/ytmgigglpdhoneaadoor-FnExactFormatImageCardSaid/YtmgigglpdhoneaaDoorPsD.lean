/-
  Plain: what the made programs of codes come to: depths, images.
-/
import Derived.Test.YtmgigglpdhoneaaDoorPsC
set_option linter.unusedVariables false
set_option linter.unusedSimpArgs false
namespace Go.Abs

theorem s_run_eq (m : PImage) (c : PCode) (hc : c.instrs.length ≤ 4000) (hx : ∀ x ∈ c.instrs, InsOK m x) (out0 : List Int) (h0 : out0.length = c.instrs.length) (hs : small500 out0) :
    itr (s_l10Depths_L2 m c) LF (0, out0) = some (dres (runD m c.instrs.length 0 c.instrs out0)) := by
  rw [itr_idxA (L := s_l10Depths_L2 m c) c.instrs.length (fun _ o => o.length = c.instrs.length ∧ small500 o) (fun i o => some (dres (runD m c.instrs.length i (c.instrs.drop i) o))) (by omega) (fun go i o hi ho hgo => ?_) (fun go o ho => ?_) ⟨h0, hs⟩]
  · rw [List.drop_zero]
  · show s_l10Depths_L2b m c go i o = _
    unfold s_l10Depths_L2b
    have hX := hx _ (List.getElem_mem hi)
    have h5 := small500_at ho.2 (i : Int)
    have hep := effect_pos m c.instrs[i]
    rw [if_pos (by omega), nth_lt hi, bnd_eq, nth_at0 (by omega) (by omega), bnd_eq, List.drop_eq_getElem_cons hi]
    rw [runD_cons]
    unfold stepD
    have hJ : ∀ o', s_l10Depths_J3 i go o' = go ((i : Int) + 1, o') := fun o' => by unfold s_l10Depths_J3; rw [chk_t (by omega)]
    rw [s_l10Effect_eq m _ (fun hq => ⟨hX.a.1, hX.named hq⟩) hX.a, bnd_eq, bnd_eq]
    have hr := @eff_ret m c.instrs[i]
    generalize c.instrs[i] = x at hX hep hr ⊢
    have ht := hX.take
    by_cases h1 : at0 o i < 0
    · rw [if_pos h1, if_pos h1, hJ, hgo o ho]; rfl
    · rw [if_neg h1, if_neg h1, chk_t (by omega)]
      have hJ4 : s_l10Depths_J4 c i o go x (effectOf m x) (at0 o i) true = some ([], false) := rfl
      by_cases h2 : (at0 o i - (effectOf m x).1) < 0
      · rw [if_pos h2, if_pos (show at0 o i < (effectOf m x).1 by omega), hJ4]; rfl
      · rw [if_neg h2, if_neg (show ¬ at0 o i < (effectOf m x).1 by omega), chk_t (by omega)]
        by_cases h3 : (at0 o i - (effectOf m x).1) + (effectOf m x).2 > 500
        · rw [if_pos h3, if_pos h3, hJ4]; rfl
        · rw [if_neg h3, if_neg h3]
          have hnx : ∀ next : List Int, next.length ≤ 2 → s_l10Depths_J5 c i o go (effectOf m x) (at0 o i) next = match putAll i c.instrs.length ((at0 o i - (effectOf m x).1) + (effectOf m x).2) next o with | some o' => go ((i : Int) + 1, o') | none => some ([], false) := fun next hl => by
            unfold s_l10Depths_J5
            rw [s_next_eq c i go _ _ next (by omega) (by omega) ⟨by omega, by omega⟩ o ho.1]
            cases putAll i c.instrs.length ((at0 o i - (effectOf m x).1) + (effectOf m x).2) next o with
            | none => rfl
            | some o' => exact hJ o'
          have hfin : (x.op = 14 ∨ x.op = 13 → (at0 o i - (effectOf m x).1) + (effectOf m x).2 = 0) → s_l10Depths_J5 c i o go (effectOf m x) (at0 o i) (nextOf i x) = some (dres (runK m c.instrs.length (i + 1) (c.instrs.drop (i + 1)) (nextD i c.instrs.length ((at0 o i - (effectOf m x).1) + (effectOf m x).2) x o))) := fun hv => by
            rw [hnx _ (nextOf_len _ _), nextD_all _ _ _ _ _ hv]
            cases hp : putAll i c.instrs.length ((at0 o i - (effectOf m x).1) + (effectOf m x).2) (nextOf i x) o with
            | none => rfl
            | some o' =>
              rw [← nextD_all _ _ _ _ _ hv] at hp
              show go ((i : Int) + 1, o') = some (dres (runD m c.instrs.length (i + 1) (c.instrs.drop (i + 1)) o'))
              rw [hgo o' ⟨by rw [nextD_len hp]; exact ho.1, nextD_small ho.2 (by omega) hp⟩]
          -- the operation's own test
          have hf4 : s_l10Depths_J4 c i o go x (effectOf m x) (at0 o i) false = s_l10Depths_J5 c i o go (effectOf m x) (at0 o i) (nextOf i x) := by
            unfold s_l10Depths_J4 s_l10Depths_J8 nextOf
            rw [chk_t (by omega)]
            by_cases h14 : x.op = 14
            · simp [h14]
            · by_cases h13 : x.op = 13
              · simp [h13]
              · by_cases h15 : x.op = 15
                · simp [h15]
                · by_cases h16 : x.op = 16
                  · rw [chk_t (by simp)]; simp [h16]
                  · rw [chk_t (by simp)]; simp [h14, h13, h15, h16]
          by_cases h4 : x.op = 14 ∨ x.op = 13
          · have hz := hr h4
            by_cases h5' : (at0 o i - (effectOf m x).1) = 0
            · have hq := hfin (fun _ => by omega)
              rcases h4 with h4 | h4
              · have h13 : ¬ x.op = 13 := by omega
                rw [if_pos h4, if_pos h5', if_neg h13, hf4]; exact hq
              · have h14 : ¬ x.op = 14 := by omega
                rw [if_neg h14, if_pos h4, h5']
                simp only [decide_true, Bool.not_true]
                rw [← h5', hf4]; exact hq
            · have hn : nextD i c.instrs.length ((at0 o i - (effectOf m x).1) + (effectOf m x).2) x o = none := by unfold nextD; rw [if_pos h4, if_neg (by omega)]
              rw [hn]
              rcases h4 with h4 | h4
              · rw [if_pos h4, if_neg h5', hJ4]; rfl
              · have h14 : ¬ x.op = 14 := by omega
                rw [if_neg h14, if_pos h4]
                simp only [h5', decide_false, Bool.not_false]
                rfl
          · have hq := hfin (fun h => absurd h h4)
            simp only [not_or] at h4
            rw [if_neg h4.1, if_neg h4.2, hf4]; exact hq
  · show s_l10Depths_L2b m c go _ o = _
    unfold s_l10Depths_L2b
    rw [if_neg (by omega), List.drop_length]; rfl

/-! ### All of it -/
theorem fillM_0 (n : Nat) : fillM n 0 = List.replicate n 0 := by simp [fillM]
theorem start_small (n : Nat) : small500 ((List.replicate n (-1)).set 0 0) := small500_set (fun v hv => by rw [List.eq_of_mem_replicate hv]; omega) ⟨by decide, by decide⟩ _
theorem i_depthsOf_eq (m : PImage) (k : Nat) (hk : k < m.codes.length) (h1 : 1 ≤ (m.codes.getD k default).instrs.length) (h2 : (m.codes.getD k default).instrs.length ≤ 4000) (hx : ∀ x ∈ (m.codes.getD k default).instrs, InsOK m x) :
    i_depthsOf m k = some (dres (depthsOf m k)) := by
  unfold i_depthsOf depthsOf
  rw [nth_getN (d := default) hk, bnd_eq]
  generalize m.codes.getD k default = c at h1 h2 hx ⊢
  rw [chk_t (by omega), Int.toNat_natCast]
  rw [itr_idxA (L := i_depthsOf_L1 m c) c.instrs.length (fun i o => o = fillM c.instrs.length i) (fun _ _ => some (dres (runD m c.instrs.length 0 c.instrs ((List.replicate c.instrs.length (-1)).set 0 0)))) (by omega) (fun go i o hi ho hgo => ?_) (fun go o ho => ?_) (fillM_0 _).symm]
  · show i_depthsOf_L1b m c go i o = _
    unfold i_depthsOf_L1b
    subst ho
    have hl := fillM_len (n := c.instrs.length) (i := i) (by omega)
    rw [if_pos (by simp; omega), nth_getN (d := 0) (by omega), bnd_eq, chk_t (by omega), Int.toNat_natCast, fillM_set hi, hgo _ rfl]
  · show i_depthsOf_L1b m c go _ o = _
    unfold i_depthsOf_L1b
    subst ho
    have hl := fillM_len (n := c.instrs.length) (i := c.instrs.length) (by omega)
    rw [if_neg (by simp), show (0 : Int) = ((0 : Nat) : Int) from rfl, nth_getN (d := 0) (by omega), bnd_eq, fillM_all]
    exact i_run_eq m c h2 hx _ (by simp) (start_small _)
theorem s_l10Depths_eq (m : PImage) (k : Nat) (hk : k < m.codes.length) (h1 : 1 ≤ (m.codes.getD k default).instrs.length) (h2 : (m.codes.getD k default).instrs.length ≤ 4000) (hx : ∀ x ∈ (m.codes.getD k default).instrs, InsOK m x) :
    s_l10Depths m k = some (dres (depthsOf m k)) := by
  unfold s_l10Depths depthsOf
  rw [nth_getN (d := default) hk, bnd_eq]
  generalize m.codes.getD k default = c at h1 h2 hx ⊢
  rw [chk_t (by omega), Int.toNat_natCast]
  rw [itr_idxA (L := s_l10Depths_L1 m c) c.instrs.length (fun i o => o = fillM c.instrs.length i) (fun _ _ => some (dres (runD m c.instrs.length 0 c.instrs ((List.replicate c.instrs.length (-1)).set 0 0)))) (by omega) (fun go i o hi ho hgo => ?_) (fun go o ho => ?_) (fillM_0 _).symm]
  · show s_l10Depths_L1b m c go i o = _
    unfold s_l10Depths_L1b
    subst ho
    have hl := fillM_len (n := c.instrs.length) (i := i) (by omega)
    rw [if_pos (by simp; omega), nth_getN (d := 0) (by omega), bnd_eq, chk_t (by omega), Int.toNat_natCast, fillM_set hi, hgo _ rfl]
  · show s_l10Depths_L1b m c go _ o = _
    unfold s_l10Depths_L1b
    subst ho
    have hl := fillM_len (n := c.instrs.length) (i := c.instrs.length) (by omega)
    rw [if_neg (by simp), if_neg (by omega), show (0 : Int) = ((0 : Nat) : Int) from rfl, nth_getN (d := 0) (by omega), bnd_eq, fillM_all]
    exact s_run_eq m c h2 hx _ (by simp) (start_small _)
theorem code_len {s : Bool} {m : PImage} {k : Nat} (h : codeOKs s m k = true) : 1 ≤ (m.codes.getD k default).instrs.length ∧ (m.codes.getD k default).instrs.length ≤ 4000 := by
  unfold codeOKs at h
  simp only [Bool.and_eq_true] at h
  exact (head_slots h.1).2.2

/-! ### Depths of a code by its number -/
def stackOf (m : PImage) (code : Int) : List Int × Bool :=
  if code < 0 ∨ m.codes.length ≤ code then ([], false)
  else if (List.range (code.toNat + 1)).all (fun k => codeOKs false m k) then dres (depthsOf m code.toNat) else ([], false)
theorem all_range_succ (n : Nat) (p : Nat → Bool) : (List.range (n + 1)).all p = ((List.range n).all p && p n) := by
  rw [List.range_succ, List.all_append]; simp
theorem i_StackDepths_eq (m : PImage) (hm : m.small) (code : Int) : i_StackDepths m code = some (stackOf m code) := by
  unfold i_StackDepths stackOf
  by_cases h1 : code < 0
  · rw [if_pos h1, if_pos (.inl h1)]
  · rw [if_neg h1]
    by_cases h2 : code ≥ m.codes.length
    · rw [if_pos h2, if_pos (.inr h2)]
    · rw [if_neg h2, if_neg (by omega)]
      obtain ⟨k, rfl⟩ := Int.eq_ofNat_of_zero_le (show 0 ≤ code by omega)
      rw [Int.toNat_natCast]
      have hk : k < m.codes.length := by omega
      have hm1 := hm.1
      refine (itr_LF (fun i : Int => if (List.range i.toNat).all (fun k => codeOKs false m k) then (some (if (List.range (k + 1)).all (fun k => codeOKs false m k) then dres (depthsOf m k) else ([], false))) else itr (i_StackDepths_L1 m k) 0 i) (fun i => (0 ≤ i ∧ i ≤ (k : Int) + 1) ∧ (List.range i.toNat).all (fun k => codeOKs false m k) = true) (fun i => (k + 1) - i.toNat) (fun go i hi hgo => ?_) 0 ⟨⟨by omega, by omega⟩, rfl⟩ (by omega)).trans (by simp)
      obtain ⟨⟨ha, hb⟩, hall⟩ := hi
      obtain ⟨j, rfl⟩ := Int.eq_ofNat_of_zero_le ha
      simp only [Int.toNat_natCast] at hall hgo ⊢
      rw [if_pos hall]
      show i_StackDepths_L1b m k go j = _
      unfold i_StackDepths_L1b
      by_cases hj : (j : Int) ≤ k
      · rw [if_pos hj, i_codeOk_eq m j hm (by omega), bnd_eq]
        cases hc : codeOKs false m j
        · rw [if_neg (by simp)]
          have : (List.range (k + 1)).all (fun k => codeOKs false m k) = false := by
            rw [Bool.eq_false_iff]
            intro hq
            rw [List.all_eq_true] at hq
            rw [hq j (List.mem_range.2 (by omega))] at hc
            cases hc
          rw [this]; rfl
        · rw [if_pos rfl, chk_t (by omega)]
          have hall' : (List.range (j + 1)).all (fun k => codeOKs false m k) = true := by rw [all_range_succ, hall, hc]; rfl
          have := hgo ((j : Int) + 1) ⟨⟨by omega, by omega⟩, by rw [show ((j : Int) + 1).toNat = j + 1 by omega]; exact hall'⟩ (by omega)
          rw [this, show ((j : Int) + 1).toNat = j + 1 by omega, if_pos hall']
      · have hjk : j = k + 1 := by omega
        subst hjk
        rw [if_neg hj, hall, if_pos rfl]
        rw [List.all_eq_true] at hall
        have hOK : ∀ i, i ≤ k → codeOKs false m i = true := fun i hi => hall i (List.mem_range.2 (by omega))
        have hl := code_len (hOK k (Nat.le_refl _))
        rw [i_depthsOf_eq m k hk hl.1 hl.2 (insOK_of hk hOK)]
        rfl
theorem s_StackDepths_eq (m : PImage) (hm : m.small) (code : Int) : s_StackDepths m code = some (stackOf m code) := by
  have hm1 := hm.1
  unfold s_StackDepths stackOf
  rw [chk_t (by omega), s_l1In_eq, bnd_eq]
  unfold inside
  by_cases h1 : code < 0
  · rw [if_neg (by simp; omega), if_pos (.inl h1)]
  · by_cases h2 : code ≥ m.codes.length
    · rw [if_neg (by simp; omega), if_pos (.inr h2)]
    · rw [if_pos (by simp; omega), if_neg (by omega)]
      obtain ⟨k, rfl⟩ := Int.eq_ofNat_of_zero_le (show 0 ≤ code by omega)
      rw [Int.toNat_natCast]
      have hk : k < m.codes.length := by omega
      refine (itr_LF (fun i : Int => if (List.range i.toNat).all (fun k => codeOKs false m k) then (some (if (List.range (k + 1)).all (fun k => codeOKs false m k) then dres (depthsOf m k) else ([], false))) else itr (s_StackDepths_L1 m k) 0 i) (fun i => (0 ≤ i ∧ i ≤ (k : Int) + 1) ∧ (List.range i.toNat).all (fun k => codeOKs false m k) = true) (fun i => (k + 1) - i.toNat) (fun go i hi hgo => ?_) 0 ⟨⟨by omega, by omega⟩, rfl⟩ (by omega)).trans (by simp)
      obtain ⟨⟨ha, hb⟩, hall⟩ := hi
      obtain ⟨j, rfl⟩ := Int.eq_ofNat_of_zero_le ha
      simp only [Int.toNat_natCast] at hall hgo ⊢
      rw [if_pos hall]
      show s_StackDepths_L1b m k go j = _
      unfold s_StackDepths_L1b
      by_cases hj : (j : Int) ≤ k
      · have hall0 := hall
        rw [List.all_eq_true] at hall0
        rw [if_pos hj, s_l10Code_eq m j hm (by omega), bnd_eq, codeOK_same (fun i hi => hall0 i (List.mem_range.2 hi))]
        cases hc : codeOKs false m j
        · rw [if_neg (by simp)]
          have : (List.range (k + 1)).all (fun k => codeOKs false m k) = false := by
            rw [Bool.eq_false_iff]
            intro hq
            rw [List.all_eq_true] at hq
            rw [hq j (List.mem_range.2 (by omega))] at hc
            cases hc
          rw [this]; rfl
        · rw [if_pos rfl, chk_t (by omega)]
          have hall' : (List.range (j + 1)).all (fun k => codeOKs false m k) = true := by rw [all_range_succ, hall, hc]; rfl
          have := hgo ((j : Int) + 1) ⟨⟨by omega, by omega⟩, by rw [show ((j : Int) + 1).toNat = j + 1 by omega]; exact hall'⟩ (by omega)
          rw [this, show ((j : Int) + 1).toNat = j + 1 by omega, if_pos hall']
      · have hjk : j = k + 1 := by omega
        subst hjk
        rw [if_neg hj, hall, if_pos rfl]
        rw [List.all_eq_true] at hall
        have hOK : ∀ i, i ≤ k → codeOKs false m i = true := fun i hi => hall i (List.mem_range.2 (by omega))
        have hl := code_len (hOK k (Nat.le_refl _))
        rw [s_l10Depths_eq m k hk hl.1 hl.2 (insOK_of hk hOK)]
        rfl

/-! ### Images -/
def bumpI (t : List Int) (x : PInstr) : List Int := if namedOp x then t.set x.a.toNat (t.getD x.a.toNat 0 + 1) else t
def bumpIs (xs : List PInstr) (t : List Int) : List Int := xs.foldl bumpI t
def bumpCs (cs : List PCode) (t : List Int) : List Int := cs.foldl (fun t c => bumpIs c.instrs t) t
def totalOf (cs : List PCode) : Int := cs.foldl (fun n c => n + (c.instrs.length : Int)) 0
def codesOK (m : PImage) : Bool := (List.range m.codes.length).all fun k => codeOKs false m k && (depthsOf m k).isSome
def onceOK (m : PImage) : Bool := ((bumpCs m.codes (List.replicate m.codes.length 0)).take (m.codes.length - 1)).all fun n => decide (n = 1)
/-- What is an image. -/
def isImg (m : PImage) (captures : Int) : Bool :=
  inside m.codes.length 1 1500 && (decide (m.main = (m.codes.length : Int) - 1) && (decide ((m.codes.getD (m.codes.length - 1) default).params = 0) && (decide ((m.codes.getD (m.codes.length - 1) default).captures = captures) &&
    (codesOK m && (decide (totalOf m.codes ≤ 16000) && onceOK m)))))

theorem bumpI_len (t : List Int) (x : PInstr) : (bumpI t x).length = t.length := by unfold bumpI; split <;> simp
theorem bumpIs_len : ∀ (xs : List PInstr) (t : List Int), (bumpIs xs t).length = t.length
  | [], t => rfl
  | x :: xs, t => by show (bumpIs xs (bumpI t x)).length = _; rw [bumpIs_len xs, bumpI_len]
def low (b : Int) (t : List Int) : Prop := ∀ v ∈ t, 0 ≤ v ∧ v ≤ b
theorem low_get {b : Int} {t : List Int} (h : low b t) (hb : 0 ≤ b) (i : Nat) : 0 ≤ t.getD i 0 ∧ t.getD i 0 ≤ b := by
  by_cases hi : i < t.length
  · rw [List.getD, List.getElem?_eq_getElem hi]; exact h _ (List.getElem_mem hi)
  · rw [List.getD, List.getElem?_eq_none (by omega)]; simp; exact hb
theorem bumpI_low {b : Int} {t : List Int} (h : low b t) (hb : 0 ≤ b) (x : PInstr) : low (b + 1) (bumpI t x) := by
  unfold bumpI
  split
  · intro v hv
    have hg := low_get h hb x.a.toNat
    rcases List.mem_or_eq_of_mem_set hv with hv | rfl
    · have := h v hv; omega
    · omega
  · intro v hv; have := h v hv; omega
theorem namesCode_eq (op : Int) : i_namesCode op = some (decide (op = 11 ∨ op = 18 ∨ op = 19 ∨ op = 20)) := by
  unfold i_namesCode
  by_cases h1 : op = 11 <;> by_cases h2 : op = 18 <;> by_cases h3 : op = 19 <;> simp [h1, h2, h3]
theorem l10Inside_eq (op : Int) : s_l10Inside op = some (decide (op = 11 ∨ op = 18 ∨ op = 19 ∨ op = 20)) := by
  unfold s_l10Inside
  by_cases h1 : op = 11 <;> by_cases h2 : op = 18 <;> by_cases h3 : op = 19 <;> simp [h1, h2, h3]

def InsOK' (n : Nat) (x : PInstr) : Prop := namedOp x → 0 ≤ x.a ∧ x.a < n
/-- One code's instructions counted: the program. -/
theorem i_count_eq (total x6 : Int) (go8 : Int × Int × List Int → Option Bool) (c : PCode) (n : Nat) (b : Int) (hb : 0 ≤ b ∧ b ≤ 1000000000) (hx6 : 0 ≤ x6 ∧ x6 ≤ 2000) (hc : c.instrs.length ≤ 4000) (hx : ∀ x ∈ c.instrs, InsOK' n x) (t : List Int) (ht : t.length = n) (hlow : low b t) :
    itr (i_IsImage_L2 total x6 go8 c) LF (0, t) = go8 (total + (c.instrs.length : Int), x6 + 1, bumpIs c.instrs t) := by
  rw [itr_idxA (L := i_IsImage_L2 total x6 go8 c) c.instrs.length (fun i t => t.length = n ∧ low (b + i) t) (fun i t => go8 (total + (c.instrs.length : Int), x6 + 1, bumpIs (c.instrs.drop i) t)) (by omega) (fun go i t hi ht hgo => ?_) (fun go t ht => ?_) ⟨ht, by simpa using hlow⟩]
  · rw [List.drop_zero]
  · show i_IsImage_L2b total x6 go8 c go i t = _
    unfold i_IsImage_L2b i_IsImage_J3
    have hX := hx _ (List.getElem_mem hi)
    rw [if_pos (by omega), nth_lt hi, bnd_eq, namesCode_eq, bnd_eq, chk_t (by omega), List.drop_eq_getElem_cons hi]
    show _ = go8 (total + (c.instrs.length : Int), x6 + 1, bumpIs (c.instrs.drop (i + 1)) (bumpI t c.instrs[i]))
    have hl := bumpI_low ht.2 (by omega) c.instrs[i]
    have hll := bumpI_len t c.instrs[i]
    have hg := hgo (bumpI t c.instrs[i]) ⟨by rw [hll, ht.1], by rw [show b + ((i + 1 : Nat) : Int) = b + i + 1 by omega]; exact hl⟩
    rw [← hg]
    clear hg hl hll hgo
    generalize c.instrs[i] = x at hX ⊢
    unfold bumpI
    by_cases hn : namedOp x
    · have ha := hX hn
      have hv := low_get ht.2 (by omega) x.a.toNat
      have hn' : decide (x.op = 11 ∨ x.op = 18 ∨ x.op = 19 ∨ x.op = 20) = true := decide_eq_true hn
      rw [hn', if_pos rfl, if_pos hn, nth_getD (d := 0) ha.1 (by omega), bnd_eq, bnd_eq, chk_t (by omega), chk_t (by omega)]
    · have hn' : decide (x.op = 11 ∨ x.op = 18 ∨ x.op = 19 ∨ x.op = 20) = false := decide_eq_false hn
      rw [hn', if_neg hn]
      simp
  · show i_IsImage_L2b total x6 go8 c go _ t = _
    unfold i_IsImage_L2b
    rw [if_neg (by omega), chk_t (by omega), List.drop_length]; rfl
theorem s_count_eq (x2 : Int) (go4 : Int × List Int → Option Bool) (c : PCode) (n : Nat) (b : Int) (hb : 0 ≤ b ∧ b ≤ 1000000000) (hx2 : 0 ≤ x2 ∧ x2 ≤ 2000) (hc : c.instrs.length ≤ 4000) (hx : ∀ x ∈ c.instrs, InsOK' n x) (t : List Int) (ht : t.length = n) (hlow : low b t) :
    itr (s_l10Tree_L2 x2 go4 c) LF (0, t) = go4 (x2 + 1, bumpIs c.instrs t) := by
  rw [itr_idxA (L := s_l10Tree_L2 x2 go4 c) c.instrs.length (fun i t => t.length = n ∧ low (b + i) t) (fun i t => go4 (x2 + 1, bumpIs (c.instrs.drop i) t)) (by omega) (fun go i t hi ht hgo => ?_) (fun go t ht => ?_) ⟨ht, by simpa using hlow⟩]
  · rw [List.drop_zero]
  · show s_l10Tree_L2b x2 go4 c go i t = _
    unfold s_l10Tree_L2b s_l10Tree_J3
    have hX := hx _ (List.getElem_mem hi)
    rw [if_pos (by omega), nth_lt hi, bnd_eq, l10Inside_eq, bnd_eq, chk_t (by omega), List.drop_eq_getElem_cons hi]
    show _ = go4 (x2 + 1, bumpIs (c.instrs.drop (i + 1)) (bumpI t c.instrs[i]))
    have hl := bumpI_low ht.2 (by omega) c.instrs[i]
    have hll := bumpI_len t c.instrs[i]
    have hg := hgo (bumpI t c.instrs[i]) ⟨by rw [hll, ht.1], by rw [show b + ((i + 1 : Nat) : Int) = b + i + 1 by omega]; exact hl⟩
    rw [← hg]
    clear hg hl hll hgo
    generalize c.instrs[i] = x at hX ⊢
    unfold bumpI
    by_cases hn : namedOp x
    · have ha := hX hn
      have hv := low_get ht.2 (by omega) x.a.toNat
      have hn' : decide (x.op = 11 ∨ x.op = 18 ∨ x.op = 19 ∨ x.op = 20) = true := decide_eq_true hn
      rw [hn', if_pos rfl, if_pos hn, nth_getD (d := 0) ha.1 (by omega), bnd_eq, bnd_eq, chk_t (by omega), chk_t (by omega)]
    · have hn' : decide (x.op = 11 ∨ x.op = 18 ∨ x.op = 19 ∨ x.op = 20) = false := decide_eq_false hn
      rw [hn', if_neg hn]
      simp
  · show s_l10Tree_L2b x2 go4 c go _ t = _
    unfold s_l10Tree_L2b
    rw [if_neg (by omega), chk_t (by omega), List.drop_length]; rfl

end Go.Abs
