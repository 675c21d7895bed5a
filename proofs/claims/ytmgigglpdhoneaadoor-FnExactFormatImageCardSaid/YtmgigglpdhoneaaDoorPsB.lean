/-
  Plain: what the made programs of data come to.
-/
import Derived.Test.YtmgigglpdhoneaaDoorPsA
set_option linter.unusedVariables false
set_option linter.unusedSimpArgs false
namespace Go.Abs
open PDat

theorem small_SM {d : PDat} (h : d.small) : SM d.text := by
  have := ((short_eq d).1 h.1).1
  unfold SM; omega
theorem small_len {d : PDat} (h : d.small) : d.items.length ≤ 1048576 := by
  have h1 := cnts_len d.items
  have h2 := h.2
  rw [cnt_eq] at h2
  omega
theorem item_small {d : PDat} (h : d.small) {i : Nat} (hi : i < d.items.length) : (d.items[i]).small ∧ (d.items[i]).cnt < d.cnt :=
  ⟨small_item h (List.getElem_mem hi), cnt_item (List.getElem_mem hi)⟩

/-! ### Equality -/
theorem eq_loop {E : PDat → PDat → Option Bool} {L : (Int → Option Bool) → Int → Option Bool} (a b : PDat) (hl : a.items.length = b.items.length) (hn : a.items.length ≤ 1048576)
    (hE : ∀ i (h : i < a.items.length) (h2 : i < b.items.length), E a.items[i] b.items[i] = some (eqb a.items[i] b.items[i]))
    (hL : ∀ go (i : Int), L go i = if i < (a.items.length : Int) then bnd (nth a.items i) fun x => bnd (nth b.items i) fun y => bnd (E x y) fun e => if e = true then chk (I64 (i + 1)) (go (i + 1)) else some false else some true) :
    itr L LF 0 = some (eqbs a.items b.items) := by
  rw [itr_idx (L := L) a.items.length (fun i => some (eqbs (a.items.drop i) (b.items.drop i))) (by omega) (fun go i hi hgo => ?_) (fun go => ?_)]
  · rfl
  · have hi2 : i < b.items.length := by omega
    rw [hL, if_pos (by omega), nth_lt hi, nth_lt hi2]
    simp only [bnd_eq, hE i hi hi2]
    rw [chk_t (by omega), hgo, List.drop_eq_getElem_cons hi, List.drop_eq_getElem_cons hi2, eqbs]
    cases eqb a.items[i] b.items[i] <;> simp
  · rw [hL, if_neg (by omega), List.drop_length, hl, List.drop_length]; rfl
theorem i_EqualData_eq : ∀ (n : Nat) (a b : PDat), a.cnt < n → a.small → i_EqualData n a b = some (eqb a b)
  | 0, a, b, h, _ => by omega
  | n + 1, a, b, h, ha => by
    show i_EqualData_b (i_EqualData n) a b = _
    unfold i_EqualData_b
    rw [eqb_eq]
    by_cases h1 : a.kind = b.kind <;> by_cases h2 : a.number = b.number <;> by_cases h3 : a.text = b.text <;> simp only [h1, h2, h3, if_true, if_false, decide_true, decide_false, Bool.true_and, Bool.false_and]
    by_cases h4 : a.items.length = b.items.length
    · rw [if_pos (by omega), eq_loop (L := i_EqualData_L1 (i_EqualData n) a b) a b h4 (small_len ha) (E := i_EqualData n) (fun i hi hi2 => i_EqualData_eq n _ _ (by have := (item_small ha hi).2; omega) (item_small ha hi).1) (fun go i => rfl)]
    · rw [if_neg (by omega)]
      cases he : eqbs a.items b.items
      · rfl
      · exact absurd (eqbs_len he) h4
theorem s_EqualData_eq : ∀ (n : Nat) (a b : PDat), a.cnt < n → a.small → s_EqualData n a b = some (eqb a b)
  | 0, a, b, h, _ => by omega
  | n + 1, a, b, h, ha => by
    show s_EqualData_b (s_EqualData n) a b = _
    unfold s_EqualData_b
    rw [eqb_eq]
    by_cases h1 : a.kind = b.kind <;> by_cases h2 : a.number = b.number <;> by_cases h3 : a.text = b.text <;> simp only [h1, h2, h3, if_true, if_false, decide_true, decide_false, Bool.true_and, Bool.false_and]
    by_cases h4 : a.items.length = b.items.length
    · rw [if_pos (by omega), eq_loop (L := s_EqualData_L1 (s_EqualData n) a b) a b h4 (small_len ha) (E := s_EqualData n) (fun i hi hi2 => s_EqualData_eq n _ _ (by have := (item_small ha hi).2; omega) (item_small ha hi).1) (fun go i => rfl)]
    · rw [if_neg (by omega)]
      cases he : eqbs a.items b.items
      · rfl
      · exact absurd (eqbs_len he) h4
mutual
theorem eqb_true : ∀ {a b : PDat}, eqb a b = true → a = b
  | .mk k n t is, .mk k' n' t' is', h => by
    simp only [eqb, Bool.and_eq_true, decide_eq_true_eq] at h
    obtain ⟨rfl, rfl, rfl, h⟩ := h
    rw [eqbs_true h]
theorem eqbs_true : ∀ {a b : List PDat}, eqbs a b = true → a = b
  | [], [], _ => rfl
  | x :: r, y :: s, h => by
    simp only [eqbs, Bool.and_eq_true] at h
    rw [eqb_true h.1, eqbs_true h.2]
  | [], _ :: _, h => by simp [eqbs] at h
  | _ :: _, [], h => by simp [eqbs] at h
end
theorem RF_cnt {d : PDat} (h : d.small) : d.cnt < RF := by rw [RF_eq]; have := h.2; omega

/-! ### What is a datum: the program -/
theorem i_measure_eq : ∀ (n : Nat) (d : PDat) (deep nodes : Int), d.cnt < n → d.small → 0 ≤ deep → deep ≤ 21 → 0 ≤ nodes → nodes ≤ 600 → i_measure n d deep nodes = some (meas d deep nodes)
  | 0, d, _, _, h, _, _, _, _, _ => by omega
  | n + 1, d, deep, nodes, h, hd, h1, h2, h3, h4 => by
    show i_measure_b (i_measure n) d deep nodes = _
    unfold i_measure_b
    rw [meas_eq, chk_t (by omega)]
    by_cases h5 : deep > 20
    · rw [if_pos h5, if_pos (.inl h5)]
    · rw [if_neg h5]
      by_cases h6 : nodes + 1 > 600
      · rw [if_pos h6, if_pos (.inr (.inl h6))]
      · rw [if_neg h6, i_rightNode_eq _ _ _ _ (small_SM hd)]
        simp only [bnd_eq]
        cases h7 : nodeOK d.kind d.number d.text d.items.length
        · simp
        · rw [if_pos rfl, if_neg (by simp; omega)]
          have hs := small_len hd
          rw [itr_idxA (L := i_measure_L1 (i_measure n) d deep) d.items.length (fun i a => 0 ≤ a ∧ a ≤ 600) (fun i a => some (measL (d.items.drop i) (deep + 1) a)) (by omega) (fun go i a hi ha hgo => ?_) (fun go a ha => ?_) (by omega)]
          · rfl
          · show i_measure_L1b (i_measure n) d deep go i a = _
            unfold i_measure_L1b
            rw [if_pos (by omega), nth_lt hi]
            simp only [bnd_eq]
            rw [chk_t (by omega), i_measure_eq n _ _ _ (by have := (item_small hd hi).2; omega) (item_small hd hi).1 (by omega) (by omega) ha.1 ha.2]
            simp only [bnd_eq]
            rw [List.drop_eq_getElem_cons hi, measL]
            by_cases h8 : (meas d.items[i] (deep + 1) a).1 = true
            · rw [if_pos h8, if_pos h8, chk_t (by omega), hgo]
              have := (meas_spec.1 d.items[i] (deep + 1) a)
              have h9 := this.1.1 h8
              have h10 := this.2 h8
              omega
            · rw [if_neg h8, if_neg h8]
          · show i_measure_L1b (i_measure n) d deep go _ a = _
            unfold i_measure_L1b
            rw [if_neg (by omega), List.drop_length]; rfl
theorem i_IsDatum_eq (d : PDat) (h : d.small) : i_IsDatum d = some d.valid := by
  unfold i_IsDatum
  rw [i_measure_eq RF d 1 0 (RF_cnt h) h (by omega) (by omega) (by omega) (by omega)]
  simp only [bnd_eq, meas_valid]

/-! ### What is a datum: the reference -/
theorem s_l1Few_eq (n : Nat) : ∀ (d : PDat) (left : Int), d.cnt < n → d.small → 0 ≤ left → left ≤ 600 → s_l1Few n d left = some (decide (0 ≤ few d left), few d left) := by
  induction n with
  | zero => intro d _ h; omega
  | succ n ih =>
    intro d left h hd h1 h2
    show s_l1Few_b (s_l1Few n) d left = _
    unfold s_l1Few_b
    rw [few_eq, chk_t (by omega)]
    have hs := small_len hd
    rw [itr_idxA (L := s_l1Few_L1 (s_l1Few n) d) d.items.length (fun i a => -1 ≤ a ∧ a ≤ 600) (fun i a => some (decide (0 ≤ fews (d.items.drop i) a), fews (d.items.drop i) a)) (by omega) (fun go i a hi ha hgo => ?_) (fun go a ha => ?_) (by omega)]
    · rw [List.drop_zero]
    · show s_l1Few_L1b (s_l1Few n) d go i a = _
      unfold s_l1Few_L1b s_l1Few_J2
      rw [if_pos (by omega), List.drop_eq_getElem_cons hi, fews]
      by_cases h0 : 0 ≤ a
      · rw [if_pos (by simpa using h0), if_pos h0, nth_lt hi]
        rw [bnd_eq]
        rw [ih _ _ (by have := (item_small hd hi).2; omega) (item_small hd hi).1 h0 ha.2]
        rw [bnd_eq]
        have := (few_spec.1 d.items[i] a h0).1
        generalize few d.items[i] a = z at this ⊢
        rw [chk_t (by omega), hgo _ (by omega)]
      · rw [if_neg (by simpa using h0), if_neg h0]
    · show s_l1Few_L1b (s_l1Few n) d go _ a = _
      unfold s_l1Few_L1b s_l1Few_J2
      rw [if_neg (by omega), List.drop_length]
      simp only [fews, Bool.false_eq_true, if_false]
      rfl
theorem s_DepthOf_eq (n : Nat) : ∀ (d : PDat), d.cnt < n → d.small → s_DepthOf n d = some d.depth := by
  induction n with
  | zero => intro d h; omega
  | succ n ih =>
    intro d h hd
    show s_DepthOf_b (s_DepthOf n) d = _
    unfold s_DepthOf_b
    have hs := small_len hd
    have hc := hd.2
    have hdc := depth_cnt.1 d
    have hmax : ∀ x ∈ d.items, 0 ≤ x.depth ∧ x.depth ≤ 1048577 := fun x hx => by
      have h1 := depth_cnt.1 x
      have h2 := cnt_item hx
      omega
    rw [itr_Aidx (L := s_DepthOf_L1 (s_DepthOf n) d) d.items.length (fun i a => 0 ≤ a ∧ a ≤ 1048577) (fun i a => some (max a (depths (d.items.drop i)) + 1)) (by omega) (fun go i a hi ha hgo => ?_) (fun go a ha => ?_) (by omega)]
    · rw [depth_eq, List.drop_zero]
      have := depths_nonneg d.items
      rw [Int.max_eq_right this]
    · show s_DepthOf_L1b (s_DepthOf n) d go a i = _
      unfold s_DepthOf_L1b
      have hx := hmax _ (List.getElem_mem hi)
      rw [if_pos (by omega), nth_lt hi]
      rw [bnd_eq]
      rw [ih _ (by have := (item_small hd hi).2; omega) (item_small hd hi).1]
      rw [bnd_eq]
      rw [List.drop_eq_getElem_cons hi, depths]
      generalize depth d.items[i] = z at hx ⊢
      rw [chk_t (by omega), hgo _ (by omega), Int.max_assoc]
    · show s_DepthOf_L1b (s_DepthOf n) d go a _ = _
      unfold s_DepthOf_L1b
      rw [if_neg (by omega), List.drop_length, chk_t (by omega)]
      simp only [depths]
      rw [Int.max_eq_left ha.1]
theorem s_l1Nodes_eq : ∀ (n : Nat) (d : PDat), d.cnt < n → d.small → s_l1Nodes n d = some d.okAll
  | 0, d, h, _ => by omega
  | n + 1, d, h, hd => by
    show s_l1Nodes_b (s_l1Nodes n) d = _
    unfold s_l1Nodes_b
    have hs := small_len hd
    rw [okAll_eq, itr_idx (L := s_l1Nodes_L1 (s_l1Nodes n) d) d.items.length (fun i => some (okAlls (d.items.drop i) && nodeOK d.kind d.number d.text d.items.length)) (by omega) (fun go i hi hgo => ?_) (fun go => ?_)]
    · rw [List.drop_zero, Bool.and_comm]
    · show s_l1Nodes_L1b (s_l1Nodes n) d go i = _
      unfold s_l1Nodes_L1b
      rw [if_pos (by omega), nth_lt hi]
      simp only [bnd_eq]
      rw [s_l1Nodes_eq n _ (by have := (item_small hd hi).2; omega) (item_small hd hi).1]
      simp only [bnd_eq]
      rw [chk_t (by omega), hgo, List.drop_eq_getElem_cons hi, okAlls]
      cases okAll d.items[i] <;> simp
    · show s_l1Nodes_L1b (s_l1Nodes n) d go _ = _
      unfold s_l1Nodes_L1b
      rw [if_neg (by omega), List.drop_length, s_l1Node_eq _ _ _ _ (small_SM hd)]
      simp [okAlls]
theorem s_IsDatum_eq (d : PDat) (h : d.small) : s_IsDatum d = some d.valid := by
  unfold s_IsDatum
  rw [s_l1Few_eq RF d 600 (RF_cnt h) h (by omega) (by omega), s_DepthOf_eq RF d (RF_cnt h) h, s_l1Nodes_eq RF d (RF_cnt h) h]
  simp only [bnd_eq]
  rw [← few_valid]
  by_cases h1 : 0 ≤ few d 600 <;> by_cases h2 : d.depth ≤ 20 <;> simp [h1, h2]

/-! ### Instructions -/
def PInstr.small (x : PInstr) : Prop := x.d.small
theorem zeroDat_small : zeroDat.small := ⟨⟨by simp, trivial⟩, by simp [zeroDat, cnt, cnts]⟩
theorem i_instrOk_eq (x : PInstr) (h : x.d.small) : i_instrOk x = some (instrOK x) := by
  unfold i_instrOk instrOK inside
  rw [i_IsDatum_eq _ h, i_EqualData_eq RF _ _ (RF_cnt h) h]
  simp only [bnd_eq, show PDat.mk 0 0 ([] : List UInt8) [] = zeroDat from rfl]
  by_cases h1 : x.op < 1
  · have : ¬ 1 ≤ x.op := by omega
    simp [h1, this]
  · have h1' : 1 ≤ x.op := by omega
    by_cases h2 : x.op > 20
    · have : ¬ x.op ≤ 20 := by omega
      simp [h1, h2, this]
    · have h2' : x.op ≤ 20 := by omega
      by_cases h3 : x.op = 1
      · by_cases h4 : x.a = 0 <;> simp [h3, h4]
      · simp only [h1, h2, h3, h1', h2', if_false, decide_true, Bool.true_and, Bool.and_self]
        cases eqb x.d zeroDat
        · simp
        · by_cases h5 : x.a < 0
          · have : ¬ 0 ≤ x.a := by omega
            simp [h5, this]
          · have h5' : 0 ≤ x.a := by omega
            by_cases h6 : x.a > 4000
            · have : ¬ x.a ≤ 4000 := by omega
              simp [h5, h6, this]
            · have h6' : x.a ≤ 4000 := by omega
              by_cases h7 : x.a = 0 <;> by_cases h8 : x.op = 14 <;> simp [h5, h6, h5', h6', h7, h8]
theorem s_l10Instr_eq (x : PInstr) (h : x.d.small) : s_l10Instr x = some (instrOK x) := by
  unfold s_l10Instr instrOK s_l10Plain
  rw [s_IsDatum_eq _ h, s_EqualData_eq RF _ _ (RF_cnt h) h]
  simp only [bnd_eq, show PDat.mk 0 0 ([] : List UInt8) [] = zeroDat from rfl, s_l1In_eq]
  cases inside x.op 1 20
  · simp
  · by_cases h3 : x.op = 1
    · by_cases h4 : x.a = 0 <;> simp [h3, h4]
    · cases eqb x.d zeroDat
      · simp [h3]
      · cases inside x.a 0 4000
        · simp [h3]
        · by_cases h7 : x.a = 0 <;> by_cases h8 : x.op = 14 <;> simp [h3, h7, h8]
end Go.Abs
