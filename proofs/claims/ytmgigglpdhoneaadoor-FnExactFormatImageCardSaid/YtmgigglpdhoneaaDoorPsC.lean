/-
  Plain: what the made programs of codes come to: operands, effects, right codes.
-/
import Derived.Test.YtmgigglpdhoneaaDoorPsB
set_option linter.unusedVariables false
set_option linter.unusedSimpArgs false
namespace Go.Abs

theorem nth_getD {α : Type} {d : α} {l : List α} {i : Int} (h : 0 ≤ i) (h2 : i < l.length) : nth l i = some (l.getD i.toNat d) := by
  rw [nth_int h h2]
  have : i.toNat < l.length := by omega
  simp [List.getD, List.getElem?_eq_getElem this]
theorem nth_getN {α : Type} {d : α} {l : List α} {i : Nat} (h : i < l.length) : nth l (i : Int) = some (l.getD i d) := by
  rw [nth_lt h]; simp [List.getD, List.getElem?_eq_getElem h]

theorem op_cases (n : Int) : n = 1 ∨ n = 2 ∨ n = 3 ∨ n = 4 ∨ n = 5 ∨ n = 6 ∨ n = 7 ∨ n = 8 ∨ n = 9 ∨ n = 10 ∨ n = 11 ∨ n = 12 ∨ n = 13 ∨ n = 14 ∨ n = 15 ∨ n = 16 ∨ n = 17 ∨ n = 18 ∨ n = 19 ∨ n = 20 ∨ (¬ n = 1 ∧ ¬ n = 2 ∧ ¬ n = 3 ∧ ¬ n = 4 ∧ ¬ n = 5 ∧ ¬ n = 6 ∧ ¬ n = 7 ∧ ¬ n = 8 ∧ ¬ n = 9 ∧ ¬ n = 10 ∧ ¬ n = 11 ∧ ¬ n = 12 ∧ ¬ n = 13 ∧ ¬ n = 14 ∧ ¬ n = 15 ∧ ¬ n = 16 ∧ ¬ n = 17 ∧ ¬ n = 18 ∧ ¬ n = 19 ∧ ¬ n = 20) := by omega

def namedOp (x : PInstr) : Prop := x.op = 11 ∨ x.op = 18 ∨ x.op = 19 ∨ x.op = 20
instance (x : PInstr) : Decidable (namedOp x) := by unfold namedOp; infer_instance

theorem i_effect_eq (m : PImage) (x : PInstr) (h : namedOp x → 0 ≤ x.a ∧ x.a < m.codes.length) (ha : 0 ≤ x.a ∧ x.a ≤ 4000) : i_effect m x = some (effectOf m x) := by
  unfold i_effect effectOf
  rw [chk_t (by omega), chk_t (by omega)]
  by_cases hn : namedOp x
  · obtain ⟨h1, h2⟩ := h hn
    rw [nth_getD (d := default) h1 h2]
    unfold namedOp at hn
    rcases hn with hn | hn | hn | hn <;> simp [hn]
  · unfold namedOp at hn
    simp only [not_or] at hn
    obtain ⟨n1, n2, n3, n4⟩ := hn
    clear h
    rcases op_cases x.op with h | h | h | h | h | h | h | h | h | h | h | h | h | h | h | h | h | h | h | h | h <;> first | exact absurd h n1 | exact absurd h n2 | exact absurd h n3 | exact absurd h n4 | simp [h]
theorem s_l10Effect_eq (m : PImage) (x : PInstr) (h : namedOp x → 0 ≤ x.a ∧ x.a < m.codes.length) (ha : 0 ≤ x.a ∧ x.a ≤ 4000) : s_l10Effect m x = some (effectOf m x) := by
  unfold s_l10Effect effectOf
  rw [chk_t (by omega), chk_t (by omega)]
  by_cases hn : namedOp x
  · obtain ⟨h1, h2⟩ := h hn
    rw [nth_getD (d := default) h1 h2]
    unfold namedOp at hn
    rcases hn with hn | hn | hn | hn <;> simp [hn]
  · unfold namedOp at hn
    simp only [not_or] at hn
    obtain ⟨n1, n2, n3, n4⟩ := hn
    clear h
    rcases op_cases x.op with h | h | h | h | h | h | h | h | h | h | h | h | h | h | h | h | h | h | h | h | h <;> first | exact absurd h n1 | exact absurd h n2 | exact absurd h n3 | exact absurd h n4 | simp [h]
theorem prims_len {l : List (List UInt8)} (h : i_PrimitiveNames = some l) : (l.length : Int) = 14 := by
  simp only [i_PrimitiveNames, Option.some.injEq] at h; subst h; rfl
theorem s_prims : s_PrimitiveNames = i_PrimitiveNames := rfl
theorem prims_some : ∃ l, i_PrimitiveNames = some l ∧ (l.length : Int) = 14 := ⟨_, rfl, rfl⟩

theorem i_operandOk_eq (m : PImage) (c : PCode) (k : Int) (x : PInstr) (ha : 0 ≤ x.a) (hk : k ≤ m.codes.length) : i_operandOk m c k x = some (fitsOf false m c k x) := by
  obtain ⟨l, hl, hl2⟩ := prims_some
  unfold i_operandOk i_operandOk_J1 fitsOf
  rw [hl]
  simp only [bnd_eq, hl2]
  by_cases hx : x.a < k
  · rw [nth_getD (d := default) ha (by omega)]
    simp only [bnd_eq, hx, if_true, decide_true, Bool.true_and]
    clear hl hl2
    by_cases h9 : c.params ≤ x.a <;> rcases op_cases x.op with h | h | h | h | h | h | h | h | h | h | h | h | h | h | h | h | h | h | h | h | h <;> simp [h, h9]
  · simp only [hx, if_false, decide_false, Bool.false_and]
    clear hl hl2
    by_cases h9 : c.params ≤ x.a <;> rcases op_cases x.op with h | h | h | h | h | h | h | h | h | h | h | h | h | h | h | h | h | h | h | h | h <;> simp [h, h9]
theorem s_l10Fits_eq (m : PImage) (k : Nat) (x : PInstr) (ha : 0 ≤ x.a) (hk : k < m.codes.length) (hs : 0 ≤ (m.codes.getD k default).slots ∧ (m.codes.getD k default).slots ≤ 500) : s_l10Fits m k x = some (fitsOf true m (m.codes.getD k default) k x) := by
  obtain ⟨l, hl, hl2⟩ := prims_some
  unfold s_l10Fits s_l10Fits_J1 fitsOf
  rw [nth_getN (d := default) hk, s_prims, hl]
  simp only [bnd_eq, hl2]
  generalize m.codes.getD k default = c at hs ⊢
  rw [chk_t (by omega), s_l1In_eq]
  simp only [bnd_eq]
  have e : inside x.a c.params (c.slots - 1) = (decide (c.params ≤ x.a) && decide (x.a < c.slots)) := by
    unfold inside; congr 1; exact decide_eq_decide.2 (by omega)
  rw [e]
  by_cases hx : x.a < k
  · rw [nth_getD (d := default) ha (by omega)]
    simp only [bnd_eq, hx, if_true, decide_true, Bool.true_and]
    clear hl hl2
    rcases op_cases x.op with h | h | h | h | h | h | h | h | h | h | h | h | h | h | h | h | h | h | h | h | h <;> simp [h]
  · simp only [hx, if_false, decide_false, Bool.false_and]
    clear hl hl2
    rcases op_cases x.op with h | h | h | h | h | h | h | h | h | h | h | h | h | h | h | h | h | h | h | h | h <;> simp [h]

theorem i_codeOk_eq (m : PImage) (k : Nat) (hm : m.small) (hk : k < m.codes.length) : i_codeOk m k = some (codeOKs false m k) := by
  have hc := hm.2 _ (getD_mem (d := default) hk)
  unfold i_codeOk
  rw [nth_getN (d := default) hk, codeOK_c]
  simp only [bnd_eq]
  generalize m.codes.getD k default = c at hc ⊢
  unfold codeOKc headOK inside
  have hL : itr (i_codeOk_L1 m k c) LF 0 = some (c.instrs.all fun x => instrOK x && fitsOf false m c k x) := by
    rw [itr_all c.instrs (fun x => instrOK x && fitsOf false m c k x) (some true) (some false) (by have := hc.1; omega) (fun go i hi => ?_) (fun go => ?_)]
    · cases (c.instrs.all fun x => instrOK x && fitsOf false m c k x) <;> rfl
    · show i_codeOk_L1b m k c go i = _
      unfold i_codeOk_L1b
      have := hc.1
      rw [if_pos (by omega), nth_lt hi, bnd_eq, i_instrOk_eq _ (hc.2 _ (List.getElem_mem hi)), bnd_eq]
      cases h1 : instrOK c.instrs[i]
      · rfl
      · rw [i_operandOk_eq m c k _ (instrOK_a h1).1 (by omega), bnd_eq, if_pos rfl, chk_t (by omega), Bool.true_and]
    · show i_codeOk_L1b m k c go _ = _
      unfold i_codeOk_L1b
      rw [if_neg (by omega)]
  rw [hL]
  by_cases h1 : c.params < 0
  · have : decide (0 ≤ c.params) = false := by simp; omega
    simp [h1, this]
  · have h1' : decide (0 ≤ c.params) = true := by simp; omega
    by_cases h2 : c.params > 8
    · have : decide (c.params ≤ 8) = false := by simp; omega
      simp [h1, h2, this]
    · have h2' : decide (c.params ≤ 8) = true := by simp; omega
      by_cases h3 : c.slots < c.params
      · have : decide (c.params ≤ c.slots) = false := by simp; omega
        simp [h1, h2, h3, this]
      · have h3' : decide (c.params ≤ c.slots) = true := by simp; omega
        by_cases h4 : c.slots > 500
        · have : decide (c.slots ≤ 500) = false := by simp; omega
          simp [h1, h2, h3, h4, this]
        · have h4' : decide (c.slots ≤ 500) = true := by simp; omega
          by_cases h5 : c.captures < 0
          · have : decide (0 ≤ c.captures) = false := by simp; omega
            simp [h1, h2, h3, h4, h5, this]
          · have h5' : decide (0 ≤ c.captures) = true := by simp; omega
            by_cases h6 : c.captures > 500
            · have : decide (c.captures ≤ 500) = false := by simp; omega
              simp [h1, h2, h3, h4, h5, h6, this]
            · have h6' : decide (c.captures ≤ 500) = true := by simp; omega
              by_cases h7 : (c.instrs.length : Int) < 1
              · have : decide (1 ≤ (c.instrs.length : Int)) = false := by simp; omega
                simp [h1, h2, h3, h4, h5, h6, h7, this]
              · have h7' : decide (1 ≤ (c.instrs.length : Int)) = true := by simp; omega
                by_cases h8 : (c.instrs.length : Int) > 4000
                · have : decide ((c.instrs.length : Int) ≤ 4000) = false := by simp; omega
                  simp [h1, h2, h3, h4, h5, h6, h7, h8, this]
                · have h8' : decide ((c.instrs.length : Int) ≤ 4000) = true := by simp; omega
                  simp only [h1, h2, h3, h4, h5, h6, h7, h8, h1', h2', h3', h4', h5', h6', h7', h8', if_false, Bool.and_self, Bool.true_and]
theorem head_slots {c : PCode} (h : headOK c = true) : (0 ≤ c.slots ∧ c.slots ≤ 500) ∧ (0 ≤ c.captures ∧ c.captures ≤ 500) ∧ 1 ≤ c.instrs.length ∧ c.instrs.length ≤ 4000 := by
  unfold headOK inside at h
  simp only [Bool.and_eq_true, decide_eq_true_eq] at h
  omega
theorem s_l10Code_eq (m : PImage) (k : Nat) (hm : m.small) (hk : k < m.codes.length) : s_l10Code m k = some (codeOKs true m k) := by
  have hc := hm.2 _ (getD_mem (d := default) hk)
  unfold s_l10Code
  rw [nth_getN (d := default) hk, codeOK_c]
  simp only [bnd_eq, s_l1In_eq]
  have hf := fun x => s_l10Fits_eq m k x
  generalize m.codes.getD k default = c at hc hf ⊢
  unfold codeOKc headOK
  cases h1 : inside c.params 0 8
  · rfl
  cases h2 : inside c.slots c.params 500
  · rfl
  cases h3 : inside c.captures 0 500
  · rfl
  cases h4 : inside c.instrs.length 1 4000
  · rfl
  have hh : headOK c = true := by unfold headOK; rw [h1, h2, h3, h4]; rfl
  simp only [if_true, Bool.true_and]
  rw [itr_all c.instrs (fun x => instrOK x && fitsOf true m c k x) (some true) (some false) (by have := hc.1; omega) (fun go i hi => ?_) (fun go => ?_)]
  · cases (c.instrs.all fun x => instrOK x && fitsOf true m c k x) <;> rfl
  · show s_l10Code_L1b m k c go i = _
    unfold s_l10Code_L1b
    have := hc.1
    rw [if_pos (by omega), nth_lt hi, bnd_eq, s_l10Instr_eq _ (hc.2 _ (List.getElem_mem hi)), bnd_eq]
    cases h5 : instrOK c.instrs[i]
    · rfl
    · rw [hf _ (instrOK_a h5).1 hk (head_slots hh).1, bnd_eq, if_pos rfl, chk_t (by omega), Bool.true_and]
  · show s_l10Code_L1b m k c go _ = _
    unfold s_l10Code_L1b
    rw [if_neg (by omega)]

/-! ### The depths of the stack -/
/-- What a right code, behind right codes, says of its instructions. -/
structure InsOK (m : PImage) (x : PInstr) : Prop where
  a : 0 ≤ x.a ∧ x.a ≤ 4000
  named : namedOp x → x.a < m.codes.length
  take : 0 ≤ (effectOf m x).1 ∧ (effectOf m x).1 ≤ 4001
theorem fits_named {s : Bool} {m : PImage} {c : PCode} {k : Int} {x : PInstr} (h : fitsOf s m c k x = true) (hn : namedOp x) : x.a < k := by
  unfold fitsOf at h
  unfold namedOp at hn
  rcases hn with hn | hn | hn | hn <;> simp [hn] at h <;> omega
theorem insOK_of {m : PImage} {k : Nat} (hk : k < m.codes.length) (h : ∀ i, i ≤ k → codeOKs false m i = true) : ∀ x ∈ (m.codes.getD k default).instrs, InsOK m x := fun x hx => by
  have h0 := h k (Nat.le_refl _)
  unfold codeOKs at h0
  simp only [Bool.and_eq_true, List.all_eq_true] at h0
  have h1 := h0.2 x hx
  have h2 := instrOK_a h1.1
  have hn : namedOp x → x.a < k := fits_named h1.2
  refine ⟨⟨h2.1, h2.2.1⟩, fun hq => by have := hn hq; omega, ?_⟩
  unfold effectOf
  repeat' split
  all_goals try (dsimp only; omega)
  rename_i hq
  have hq' := hn hq
  have h3 := h x.a.toNat (by omega)
  unfold codeOKs at h3
  simp only [Bool.and_eq_true] at h3
  have := (head_slots h3.1).2.1
  dsimp only
  omega

def putAll (i len v : Int) : List Int → List Int → Option (List Int)
  | [], out => some out
  | k :: r, out => match putD i len v k out with | some o => putAll i len v r o | none => none
def dres : Option (List Int) → List Int × Bool
  | some o => (o, true)
  | none => ([], false)
def nextOf (i : Int) (x : PInstr) : List Int := if x.op = 14 ∨ x.op = 13 then [] else if x.op = 15 then [x.a] else if x.op = 16 then [i + 1, x.a] else [i + 1]
theorem nextD_all (i len v : Int) (x : PInstr) (out : List Int) (h : x.op = 14 ∨ x.op = 13 → v = 0) : nextD i len v x out = putAll i len v (nextOf i x) out := by
  unfold nextD nextOf
  split
  · rename_i hx; rw [if_pos (h hx)]; rfl
  · split
    · simp only [putAll]; cases putD i len v x.a out <;> rfl
    · split
      · simp only [putAll]
        cases h1 : putD i len v (i + 1) out with
        | none => rfl
        | some o => simp only; cases putD i len v x.a o <;> rfl
      · simp only [putAll]; cases putD i len v (i + 1) out <;> rfl
theorem putD_none {i len v k : Int} {out : List Int} (h : k ≤ i ∨ len ≤ k ∨ (0 ≤ at0 out k ∧ ¬ at0 out k = v)) : putD i len v k out = none := if_pos h
theorem putD_some {i len v k : Int} {out : List Int} (h : ¬ (k ≤ i ∨ len ≤ k ∨ (0 ≤ at0 out k ∧ ¬ at0 out k = v))) : putD i len v k out = some (out.set k.toNat v) := if_neg h
theorem nth_at0 {out : List Int} {k : Int} (h : 0 ≤ k) (h2 : k < out.length) : nth out k = some (at0 out k) := nth_getD h h2

theorem i_next_eq (c : PCode) (i : Int) (go : Int × List Int → Option (List Int × Bool)) (tl : Int × Int) (d : Int) (next : List Int) (hi : 0 ≤ i) (hn : next.length ≤ 1000) (out0 : List Int) (h0 : out0.length = c.instrs.length) :
    itr (i_depthsOf_L5 c i go tl d next) LF (0, out0) = match putAll i c.instrs.length ((d - tl.1) + tl.2) next out0 with | some o => i_depthsOf_J3 i go o | none => some ([], false) := by
  rw [itr_idxA (L := i_depthsOf_L5 c i go tl d next) next.length (fun _ o => o.length = c.instrs.length) (fun j o => match putAll i c.instrs.length ((d - tl.1) + tl.2) (next.drop j) o with | some o => i_depthsOf_J3 i go o | none => some ([], false)) (by omega) (fun go2 j o hj ho hgo => ?_) (fun go2 o ho => ?_) h0]
  · rw [List.drop_zero]
  · show i_depthsOf_L5b c i go tl d next go2 j o = _
    unfold i_depthsOf_L5b i_depthsOf_J6
    rw [if_pos (by omega), nth_lt hj, bnd_eq, List.drop_eq_getElem_cons hj]
    simp only [putAll]
    generalize next[j] = k
    by_cases h1 : k ≤ i
    · rw [if_pos h1, putD_none (.inl h1)]; rfl
    · rw [if_neg h1]
      by_cases h2 : k ≥ c.instrs.length
      · rw [if_pos h2, putD_none (.inr (.inl h2))]; rfl
      · rw [if_neg h2, nth_at0 (by omega) (by omega), bnd_eq, bnd_eq, bnd_eq, chk_t (by omega)]
        have hg := hgo (o.set k.toNat ((d - tl.1) + tl.2)) (by rw [List.length_set, ho])
        by_cases h3 : at0 o k ≥ 0
        · rw [if_pos h3]
          by_cases h4 : at0 o k = (d - tl.1) + tl.2
          · rw [putD_some (by omega), h4, hg]; simp
          · rw [putD_none (.inr (.inr ⟨h3, h4⟩))]; simp [h4]
        · rw [if_neg h3, putD_some (by omega), hg]; simp
  · show i_depthsOf_L5b c i go tl d next go2 _ o = _
    unfold i_depthsOf_L5b
    rw [if_neg (by omega), List.drop_length]; rfl
theorem s_next_eq (c : PCode) (i : Int) (go : Int × List Int → Option (List Int × Bool)) (tl : Int × Int) (d : Int) (next : List Int) (hi : 0 ≤ i) (hn : next.length ≤ 1000) (hv : I64 ((d - tl.1) + tl.2)) (out0 : List Int) (h0 : out0.length = c.instrs.length) :
    itr (s_l10Depths_L6 c i go tl d next) LF (0, out0) = match putAll i c.instrs.length ((d - tl.1) + tl.2) next out0 with | some o => s_l10Depths_J3 i go o | none => some ([], false) := by
  rw [itr_idxA (L := s_l10Depths_L6 c i go tl d next) next.length (fun _ o => o.length = c.instrs.length) (fun j o => match putAll i c.instrs.length ((d - tl.1) + tl.2) (next.drop j) o with | some o => s_l10Depths_J3 i go o | none => some ([], false)) (by omega) (fun go2 j o hj ho hgo => ?_) (fun go2 o ho => ?_) h0]
  · rw [List.drop_zero]
  · show s_l10Depths_L6b c i go tl d next go2 j o = _
    unfold s_l10Depths_L6b s_l10Depths_J7
    rw [if_pos (by omega), nth_lt hj, bnd_eq, List.drop_eq_getElem_cons hj]
    simp only [putAll]
    generalize next[j] = k
    by_cases h1 : k ≤ i
    · rw [if_pos h1, putD_none (.inl h1)]; rfl
    · rw [if_neg h1]
      by_cases h2 : k ≥ c.instrs.length
      · rw [if_pos h2, putD_none (.inr (.inl h2))]; rfl
      · rw [if_neg h2, nth_at0 (by omega) (by omega), bnd_eq, bnd_eq, bnd_eq, chk_t hv, chk_t hv, chk_t (by omega)]
        have hg := hgo (o.set k.toNat ((d - tl.1) + tl.2)) (by rw [List.length_set, ho])
        by_cases h3 : at0 o k ≥ 0
        · rw [if_pos h3]
          by_cases h4 : at0 o k = (d - tl.1) + tl.2
          · rw [putD_some (by omega), h4, hg]; simp
          · rw [putD_none (.inr (.inr ⟨h3, h4⟩))]; simp [h4]
        · rw [if_neg h3, putD_some (by omega), hg]; simp
  · show s_l10Depths_L6b c i go tl d next go2 _ o = _
    unfold s_l10Depths_L6b
    rw [if_neg (by omega), List.drop_length]; rfl
def runK (m : PImage) (len : Int) (i : Nat) (xs : List PInstr) : Option (List Int) → Option (List Int)
  | some o => runD m len i xs o
  | none => none
theorem runD_cons (m : PImage) (len : Int) (i : Nat) (x : PInstr) (r : List PInstr) (out : List Int) : runD m len i (x :: r) out = runK m len (i + 1) r (stepD m len i x out) := by
  rw [runD]; unfold runK; cases stepD m len i x out <;> rfl
theorem nextOf_len (i : Int) (x : PInstr) : (nextOf i x).length ≤ 2 := by
  unfold nextOf
  repeat' split
  all_goals simp
theorem eff_ret {m : PImage} {x : PInstr} (h : x.op = 14 ∨ x.op = 13) : (effectOf m x).2 = 0 := by
  unfold effectOf
  rcases h with h | h <;> simp [h]

theorem i_run_eq (m : PImage) (c : PCode) (hc : c.instrs.length ≤ 4000) (hx : ∀ x ∈ c.instrs, InsOK m x) (out0 : List Int) (h0 : out0.length = c.instrs.length) (hs : small500 out0) :
    itr (i_depthsOf_L2 m c) LF (0, out0) = some (dres (runD m c.instrs.length 0 c.instrs out0)) := by
  rw [itr_idxA (L := i_depthsOf_L2 m c) c.instrs.length (fun _ o => o.length = c.instrs.length ∧ small500 o) (fun i o => some (dres (runD m c.instrs.length i (c.instrs.drop i) o))) (by omega) (fun go i o hi ho hgo => ?_) (fun go o ho => ?_) ⟨h0, hs⟩]
  · rw [List.drop_zero]
  · show i_depthsOf_L2b m c go i o = _
    unfold i_depthsOf_L2b
    have hX := hx _ (List.getElem_mem hi)
    have h5 := small500_at ho.2 (i : Int)
    have hep := effect_pos m c.instrs[i]
    rw [if_pos (by omega), nth_lt hi, bnd_eq, nth_at0 (by omega) (by omega), bnd_eq, List.drop_eq_getElem_cons hi]
    rw [runD_cons]
    unfold stepD
    have hJ : ∀ o', i_depthsOf_J3 i go o' = go ((i : Int) + 1, o') := fun o' => by unfold i_depthsOf_J3; rw [chk_t (by omega)]
    rw [i_effect_eq m _ (fun hq => ⟨hX.a.1, hX.named hq⟩) hX.a, bnd_eq, bnd_eq, bnd_eq]
    have hr := @eff_ret m c.instrs[i]
    generalize c.instrs[i] = x at hX hep hr ⊢
    have ht := hX.take
    by_cases h1 : at0 o i < 0
    · rw [if_pos h1, if_pos h1, hJ, hgo o ho]; rfl
    · rw [if_neg h1, if_neg h1]
      by_cases h2 : (effectOf m x).1 > at0 o i
      · rw [if_pos h2, if_pos h2]; rfl
      · rw [if_neg h2, if_neg h2, chk_t (by omega), chk_t (by omega)]
        by_cases h3 : (at0 o i - (effectOf m x).1) + (effectOf m x).2 > 500
        · rw [if_pos h3, if_pos h3]; rfl
        · rw [if_neg h3, if_neg h3]
          have hnx : ∀ next : List Int, next.length ≤ 2 → i_depthsOf_J4 c i o go (effectOf m x) (at0 o i) next = match putAll i c.instrs.length ((at0 o i - (effectOf m x).1) + (effectOf m x).2) next o with | some o' => go ((i : Int) + 1, o') | none => some ([], false) := fun next hl => by
            unfold i_depthsOf_J4
            rw [i_next_eq c i go _ _ next (by omega) (by omega) o ho.1]
            cases putAll i c.instrs.length ((at0 o i - (effectOf m x).1) + (effectOf m x).2) next o with
            | none => rfl
            | some o' => exact hJ o'
          -- what follows where the next ones fit
          have hfin : (x.op = 14 ∨ x.op = 13 → (at0 o i - (effectOf m x).1) + (effectOf m x).2 = 0) → i_depthsOf_J4 c i o go (effectOf m x) (at0 o i) (nextOf i x) = some (dres (runK m c.instrs.length (i + 1) (c.instrs.drop (i + 1)) (nextD i c.instrs.length ((at0 o i - (effectOf m x).1) + (effectOf m x).2) x o))) := fun hv => by
            rw [hnx _ (nextOf_len _ _), nextD_all _ _ _ _ _ hv]
            cases hp : putAll i c.instrs.length ((at0 o i - (effectOf m x).1) + (effectOf m x).2) (nextOf i x) o with
            | none => rfl
            | some o' =>
              rw [← nextD_all _ _ _ _ _ hv] at hp
              show go ((i : Int) + 1, o') = some (dres (runD m c.instrs.length (i + 1) (c.instrs.drop (i + 1)) o'))
              rw [hgo o' ⟨by rw [nextD_len hp]; exact ho.1, nextD_small ho.2 (by omega) hp⟩]
          unfold i_depthsOf_J7
          by_cases h4 : x.op = 14 ∨ x.op = 13
          · have e : nextOf i x = [] := by unfold nextOf; rw [if_pos h4]
            have : (if x.op = 14 then true else decide (x.op = 13)) = true := by rcases h4 with h4 | h4 <;> simp [h4]
            by_cases h5 : (at0 o i - (effectOf m x).1) + (effectOf m x).2 = 0
            · have hq := hfin (fun _ => h5)
              rw [e] at hq
              rcases h4 with h4 | h4
              · simp only [h4, if_true, h5]; simp only [h4, h5] at hq; exact hq
              · simp only [h4, if_true, h5]; simp only [h4, h5] at hq; simpa using hq
            · have hn : nextD i c.instrs.length ((at0 o i - (effectOf m x).1) + (effectOf m x).2) x o = none := by unfold nextD; rw [if_pos h4, if_neg h5]
              rw [hn]
              rcases h4 with h4 | h4 <;> simp [h4, h5, dres, runK]
          · have hq := hfin (fun h => absurd h h4)
            simp only [not_or] at h4
            rw [if_neg h4.1, if_neg (by simp [h4.2])]
            unfold nextOf at hq
            rw [if_neg (by simp [h4])] at hq
            rw [← hq]
            by_cases h6 : x.op = 15
            · rw [if_pos h6, if_pos h6]
            · rw [if_neg h6, if_neg h6, chk_t (by omega), chk_t (by omega)]
              by_cases h7 : x.op = 16
              · rw [if_pos h7, if_pos h7]
              · rw [if_neg h7, if_neg h7]
  · show i_depthsOf_L2b m c go _ o = _
    unfold i_depthsOf_L2b
    rw [if_neg (by omega), List.drop_length]; rfl
end Go.Abs
