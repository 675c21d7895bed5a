/-
  Plain: data and instructions as texts.
-/
import Derived.Test.YtmgigglpdhoneaaDoorPsN
set_option linter.unusedVariables false
set_option linter.unusedSimpArgs false
namespace Go.Abs
open PDat
open Go.Lib (itoa)

mutual
/-- The text of a datum. -/
def fmtD : PDat → List UInt8
  | .mk k n t is => if k = 1 then t else if k = 2 then itoa n else if k = 3 then (if n = 1 then [35, 116] else [35, 102]) else if k = 4 then [34] ++ t ++ [34] else [40] ++ fmtDs true is ++ [41]
/-- The texts of data, one behind the other: a space ahead of each but the first. -/
def fmtDs : Bool → List PDat → List UInt8
  | _, [] => []
  | first, d :: r => (if first then [] else [32]) ++ fmtD d ++ fmtDs false r
end
theorem fmtD_eq (d : PDat) : fmtD d = if d.kind = 1 then d.text else if d.kind = 2 then itoa d.number else if d.kind = 3 then (if d.number = 1 then [35, 116] else [35, 102]) else if d.kind = 4 then [34] ++ d.text ++ [34] else [40] ++ fmtDs true d.items ++ [41] := by cases d; rw [fmtD]; rfl
theorem okAll_eq (d : PDat) : d.okAll = (nodeOK d.kind d.number d.text d.items.length && okAlls d.items) := by cases d; rfl
theorem okAlls_mem : ∀ {ds : List PDat}, okAlls ds = true → ∀ x ∈ ds, x.okAll = true
  | d :: r, h, x, hx => by
    simp only [okAlls, Bool.and_eq_true] at h
    rcases List.mem_cons.1 hx with rfl | hx
    · exact h.1
    · exact okAlls_mem h.2 x hx
theorem node_num {k n m : Int} {t : List UInt8} (h : nodeOK k n t m = true) : (k = 2 → -999999999 ≤ n ∧ n ≤ 999999999) ∧ (k = 3 → n = 0 ∨ n = 1) := by
  unfold nodeOK inside at h
  refine ⟨fun e => ?_, fun e => ?_⟩
  · rw [if_neg (by omega), if_neg (by omega), if_pos e] at h
    simp at h; omega
  · rw [if_neg (by omega), if_neg (by omega), if_neg (by omega), if_pos e] at h
    simp at h; omega
theorem fmt_len : (∀ d : PDat, d.okAll = true → (fmtD d).length ≤ 16 + 17 * wD d) ∧ ∀ ds : List PDat, okAlls ds = true → ∀ b, (fmtDs b ds).length ≤ 17 * wDs ds := by
  refine ind (fun ds h => ?_) (fun d h => ?_)
  · intro ho
    induction ds with
    | nil => intro b; simp [fmtDs]
    | cons x r ih =>
      intro b
      simp only [okAlls, Bool.and_eq_true] at ho
      have h1 := h x (by simp) ho.1
      have h2 := ih (fun y hy => h y (by simp [hy])) ho.2 false
      unfold fmtDs wDs
      have : (if b = true then ([] : List UInt8) else [32]).length ≤ 1 := by cases b <;> simp
      simp only [List.length_append]
      omega
  · intro ho
    rw [okAll_eq, Bool.and_eq_true] at ho
    rw [fmtD_eq, wD_eq]
    split
    · omega
    split
    · rename_i e; have := itoa_len _ ((node_num ho.1).1 e); omega
    split
    · split <;> simp <;> omega
    split
    · simp; omega
    · have := h ho.2 true
      simp only [List.length_append, List.length_singleton]; omega
theorem wDs_app : ∀ (a b : List PDat), wDs (a ++ b) = wDs a + wDs b
  | [], b => by simp [wDs]
  | d :: r, b => by rw [List.cons_append, wDs, wDs, wDs_app r b]; omega
theorem wDs_take {ds : List PDat} {j : Nat} (h : j < ds.length) : wDs (ds.take (j + 1)) = wDs (ds.take j) + (1 + wD ds[j]) ∧ wDs (ds.take (j + 1)) ≤ wDs ds := by
  refine ⟨?_, ?_⟩
  · rw [← List.take_append_getElem h, wDs_app]; simp [wDs]
  · have := wDs_app (ds.take (j + 1)) (ds.drop (j + 1))
    rw [List.take_append_drop] at this; omega
theorem i_writeDatum_eq : ∀ (n : Nat) (d : PDat) (out : List UInt8), d.cnt < n → d.okAll = true → d.small → out.length + 17 * wD d ≤ 1000000000 → i_writeDatum n out d = some (out ++ fmtD d)
  | 0, d, _, h, _, _, _ => by omega
  | n + 1, d, out, h, ho, hs, hl => by
    show i_writeDatum_b (i_writeDatum n) out d = _
    have ho' := ho
    rw [okAll_eq, Bool.and_eq_true] at ho'
    have hw := wD_eq d
    unfold i_writeDatum_b
    rw [fmtD_eq]
    by_cases k1 : d.kind = 1
    · rw [if_pos k1, if_pos k1, chk_t (by omega)]
    rw [if_neg k1, if_neg k1]
    by_cases k2 : d.kind = 2
    · have h2 := (node_num ho'.1).1 k2
      have := itoa_len _ h2
      rw [if_pos k2, if_pos k2, i_FormatNumber_eq _ h2, bnd_eq, chk_t (by omega)]
    rw [if_neg k2, if_neg k2]
    by_cases k3 : d.kind = 3
    · rw [if_pos k3, if_pos k3]
      split
      · rw [chk_t (by simp; omega)]
      · rw [chk_t (by simp; omega)]
    rw [if_neg k3, if_neg k3]
    by_cases k4 : d.kind = 4
    · rw [if_pos k4, if_pos k4, chk_t (by simp; omega), chk_t (by simp; omega), chk_t (by simp; omega)]; simp
    rw [if_neg k4, if_neg k4, chk_t (by simp; omega)]
    have hsl := small_len hs
    have hfl := fmt_len.2 d.items ho'.2
    have key := itr_exLF (L := i_writeDatum_L1 (i_writeDatum n) d) (fun r => r = out ++ ([40] ++ fmtDs true d.items ++ [41])) (fun v => 0 ≤ v.1 ∧ v.1 ≤ d.items.length ∧ v.2 ++ fmtDs (decide (v.1 = 0)) (d.items.drop v.1.toNat) = out ++ ([40] ++ fmtDs true d.items) ∧ v.2.length ≤ out.length + 1 + 17 * wDs (d.items.take v.1.toNat)) (fun v => d.items.length - v.1.toNat) (fun go v hv hgo => ?_) (0, out ++ [40]) ⟨by show (0 : Int) ≤ 0; omega, by show (0 : Int) ≤ _; omega, by simp, by simp⟩ (by show d.items.length - 0 < _; omega)
    · obtain ⟨r, e1, e2⟩ := key; rw [e1, e2]
    · obtain ⟨i, o⟩ := v
      obtain ⟨h1, h2, h3, h4⟩ := hv
      simp only at h1 h2 h3 h4
      obtain ⟨j, rfl⟩ := Int.eq_ofNat_of_zero_le h1
      simp only [Int.ofNat_eq_natCast, Int.toNat_natCast] at *
      show ∃ r, i_writeDatum_L1b (i_writeDatum n) d go (j : Int) o = some r ∧ _
      unfold i_writeDatum_L1b
      by_cases hj : j < d.items.length
      · rw [if_pos (by omega), nth_lt hj, bnd_eq]
        have hd := List.drop_eq_getElem_cons hj
        rw [hd, fmtDs] at h3
        obtain ⟨wt1, wt2⟩ := wDs_take hj
        have hxl := fmt_len.1 _ (okAlls_mem ho'.2 _ (List.getElem_mem hj))
        have hwm := wDs_mem (List.getElem_mem hj)
        have hxo := okAlls_mem ho'.2 _ (List.getElem_mem hj)
        have hxs := (item_small hs hj).1
        have hxc : d.items[j].cnt < n := by have := (item_small hs hj).2; omega
        have fin : ∀ o2 : List UInt8, o2 = o ++ (if decide ((j : Int) = 0) = true then [] else [32]) → ∃ r, i_writeDatum_J2 (i_writeDatum n) (j : Int) go d.items[j] o2 = some r ∧ r = out ++ ([40] ++ fmtDs true d.items ++ [41]) := by
          intro o2 e
          have ho2 : o2.length ≤ o.length + 1 := by rw [e]; simp only [List.length_append]; split <;> simp
          unfold i_writeDatum_J2
          rw [i_writeDatum_eq n _ o2 hxc hxo hxs (by omega), bnd_eq, chk_t (show -9223372036854775808 ≤ (j : Int) + 1 ∧ (j : Int) + 1 ≤ 9223372036854775807 by omega)]
          have e1 : ((j : Int) + 1).toNat = j + 1 := by omega
          refine hgo _ ⟨by show (0 : Int) ≤ (j : Int) + 1; omega, by show (j : Int) + 1 ≤ _; omega, ?_, by show (o2 ++ fmtD d.items[j]).length ≤ _ + 17 * wDs (d.items.take ((j : Int) + 1).toNat); rw [e1, List.length_append]; omega⟩ (by show d.items.length - ((j : Int) + 1).toNat < d.items.length - (j : Int).toNat; omega)
          have e2 : decide ((j : Int) + 1 = 0) = false := by simp; omega
          show (o2 ++ fmtD d.items[j]) ++ fmtDs (decide ((j : Int) + 1 = 0)) (d.items.drop ((j : Int) + 1).toNat) = _
          rw [e1, e2, e, ← h3]; simp only [List.append_assoc]
        by_cases hj0 : (j : Int) > 0
        · rw [if_pos hj0, chk_t (by simp; omega)]
          exact fin _ (by rw [if_neg (by simp; omega)])
        · rw [if_neg hj0]
          exact fin _ (by rw [if_pos (by simp; omega)]; simp)
      · have ht : d.items.take j = d.items := List.take_of_length_le (by omega)
        rw [ht] at h4
        rw [if_neg (by omega), chk_t (by simp; omega)]
        refine ⟨_, rfl, ?_⟩
        rw [List.drop_eq_nil_of_le (by omega)] at h3
        have e : fmtDs (decide ((j : Int) = 0)) [] = [] := by unfold fmtDs; rfl
        rw [e, List.append_nil] at h3
        rw [h3]; simp
theorem i_FormatDatum_eq (d : PDat) (hv : d.valid = true) (hw : wD d ≤ 1048576) : i_FormatDatum d = some (fmtD d) := by
  have hs := small_wD hw
  unfold i_FormatDatum
  have ho : d.okAll = true := by
    unfold valid at hv; simp only [Bool.and_eq_true] at hv; exact hv.2.2
  rw [i_IsDatum_eq d hs, bnd_eq, if_pos hv, i_writeDatum_eq RF d [] (RF_cnt hs) ho hs (by simp; omega), bnd_eq]; rfl

/-! ### The reference -/
def joinT : Bool → List (List UInt8) → List UInt8
  | _, [] => []
  | first, t :: r => (if first then [] else [32]) ++ t ++ joinT false r
theorem s_l1Join_eq (ts : List (List UInt8)) (hn : ts.length ≤ 1048576) (hl : (joinT true ts).length ≤ 1000000000) : s_l1Join ts [32] = some (joinT true ts) := by
  unfold s_l1Join
  have key := itr_exLF (L := s_l1Join_L1 ts [32]) (fun r => r = joinT true ts) (fun v => 0 ≤ v.2 ∧ v.2 ≤ ts.length ∧ v.1 ++ joinT (decide (v.2 = 0)) (ts.drop v.2.toNat) = joinT true ts) (fun v => ts.length - v.2.toNat) (fun go v hv hgo => ?_) ([], 0) ⟨by show (0 : Int) ≤ 0; omega, by show (0 : Int) ≤ _; omega, by simp⟩ (by show ts.length - 0 < _; omega)
  · obtain ⟨r, e1, e2⟩ := key; rw [e1, e2]
  · obtain ⟨o, i⟩ := v
    obtain ⟨h1, h2, h3⟩ := hv
    simp only at h1 h2 h3
    obtain ⟨j, rfl⟩ := Int.eq_ofNat_of_zero_le h1
    simp only [Int.ofNat_eq_natCast, Int.toNat_natCast] at *
    show ∃ r, s_l1Join_L1b ts [32] go o (j : Int) = some r ∧ _
    unfold s_l1Join_L1b
    have hol := congrArg List.length h3
    by_cases hj : j < ts.length
    · rw [if_pos (by omega), nth_lt hj, bnd_eq]
      rw [List.drop_eq_getElem_cons hj, joinT] at h3 hol
      simp only [List.length_append] at hol
      have fin : ∀ o2 : List UInt8, o2 = o ++ (if decide ((j : Int) = 0) = true then [] else [32]) → ∃ r, s_l1Join_J2 (j : Int) go ts[j] o2 = some r ∧ r = joinT true ts := by
        intro o2 e
        have ho2 : o2.length ≤ o.length + 1 := by rw [e]; simp only [List.length_append]; split <;> simp
        unfold s_l1Join_J2
        rw [chk_t (by omega), chk_t (show -9223372036854775808 ≤ (j : Int) + 1 ∧ (j : Int) + 1 ≤ 9223372036854775807 by omega)]
        refine hgo _ ⟨by show (0 : Int) ≤ (j : Int) + 1; omega, by show (j : Int) + 1 ≤ _; omega, ?_⟩ (by show ts.length - ((j : Int) + 1).toNat < ts.length - (j : Int).toNat; omega)
        have e1 : ((j : Int) + 1).toNat = j + 1 := by omega
        have e2 : decide ((j : Int) + 1 = 0) = false := by simp; omega
        show (o2 ++ ts[j]) ++ joinT (decide ((j : Int) + 1 = 0)) (ts.drop ((j : Int) + 1).toNat) = _
        rw [e1, e2, e, ← h3]; simp only [List.append_assoc]
      by_cases hj0 : (j : Int) > 0
      · rw [if_pos hj0, chk_t (by simp; omega)]
        exact fin _ (by rw [if_neg (by simp; omega)])
      · rw [if_neg hj0]
        exact fin _ (by rw [if_pos (by simp; omega)]; simp)
    · rw [if_neg (by omega)]
      refine ⟨_, rfl, ?_⟩
      rw [List.drop_eq_nil_of_le (by omega)] at h3
      have e : joinT (decide ((j : Int) = 0)) [] = [] := rfl
      rw [e, List.append_nil] at h3
      exact h3
theorem join_fmt : ∀ (b : Bool) (ds : List PDat), joinT b (ds.map fmtD) = fmtDs b ds
  | _, [] => by unfold fmtDs; rfl
  | b, d :: r => by rw [List.map_cons, joinT, fmtDs, join_fmt false r]
theorem s_l1Format_eq : ∀ (n : Nat) (d : PDat), d.cnt < n → d.okAll = true → d.small → wD d ≤ 1048576 → s_l1Format n d = some (fmtD d)
  | 0, d, h, _, _, _ => by omega
  | n + 1, d, h, ho, hs, hl => by
    show s_l1Format_b (s_l1Format n) d = _
    have ho' := ho
    rw [okAll_eq, Bool.and_eq_true] at ho'
    have hw := wD_eq d
    unfold s_l1Format_b
    rw [fmtD_eq]
    by_cases k1 : d.kind = 1
    · rw [if_pos k1, if_pos k1]
    rw [if_neg k1, if_neg k1]
    by_cases k2 : d.kind = 2
    · have h2 := (node_num ho'.1).1 k2
      rw [if_pos k2, if_pos k2, s_FormatNumber_eq _ h2, bnd_eq]
    rw [if_neg k2, if_neg k2]
    by_cases k3 : d.kind = 3
    · rw [if_pos k3, if_pos k3]
      rcases (node_num ho'.1).2 k3 with e | e
      · rw [if_neg (by omega), e]; rfl
      · rw [if_pos e, e]; rfl
    rw [if_neg k3, if_neg k3]
    by_cases k4 : d.kind = 4
    · rw [if_pos k4, if_pos k4, chk_t (by simp; omega), chk_t (by simp; omega)]
    rw [if_neg k4, if_neg k4]
    have hsl := small_len hs
    have hfl := fmt_len.2 d.items ho'.2 true
    have key := itr_exLF (L := s_l1Format_L1 (s_l1Format n) d) (fun r => r = [40] ++ fmtDs true d.items ++ [41]) (fun v => 0 ≤ v.1 ∧ v.1 ≤ d.items.length ∧ v.2 = (d.items.take v.1.toNat).map fmtD) (fun v => d.items.length - v.1.toNat) (fun go v hv hgo => ?_) (0, []) ⟨by show (0 : Int) ≤ 0; omega, by show (0 : Int) ≤ _; omega, by simp⟩ (by show d.items.length - 0 < _; omega)
    · obtain ⟨r, e1, e2⟩ := key; rw [e1, e2]
    · obtain ⟨i, ps⟩ := v
      obtain ⟨h1, h2, h3⟩ := hv
      simp only at h1 h2 h3
      obtain ⟨j, rfl⟩ := Int.eq_ofNat_of_zero_le h1
      simp only [Int.ofNat_eq_natCast, Int.toNat_natCast] at *
      show ∃ r, s_l1Format_L1b (s_l1Format n) d go (j : Int) ps = some r ∧ _
      unfold s_l1Format_L1b
      by_cases hj : j < d.items.length
      · have hwm := wDs_mem (List.getElem_mem hj)
        rw [if_pos (by omega), nth_lt hj, bnd_eq, s_l1Format_eq n _ (by have := (item_small hs hj).2; omega) (okAlls_mem ho'.2 _ (List.getElem_mem hj)) (item_small hs hj).1 (by omega), bnd_eq, chk_t (by rw [h3]; simp; omega), chk_t (show -9223372036854775808 ≤ (j : Int) + 1 ∧ (j : Int) + 1 ≤ 9223372036854775807 by omega)]
        refine hgo _ ⟨by show (0 : Int) ≤ (j : Int) + 1; omega, by show (j : Int) + 1 ≤ _; omega, ?_⟩ (by show d.items.length - ((j : Int) + 1).toNat < d.items.length - (j : Int).toNat; omega)
        have e1 : ((j : Int) + 1).toNat = j + 1 := by omega
        show ps ++ [fmtD d.items[j]] = (d.items.take ((j : Int) + 1).toNat).map fmtD
        rw [e1, h3, ← List.take_append_getElem hj, List.map_append]; rfl
      · have e : ps = d.items.map fmtD := by rw [h3, List.take_of_length_le (by omega)]
        rw [if_neg (by omega), s_l1Join_eq ps (by rw [e]; simp; omega) (by rw [e, join_fmt]; omega), bnd_eq, e, join_fmt, chk_t (by simp; omega), chk_t (by simp; omega)]
        exact ⟨_, rfl, rfl⟩

/-! ### Instructions -/
theorem opNames_len : ∀ i : Nat, i < 20 → ∃ t, nth x_opNames (i : Int) = some t ∧ t.length ≤ 20
  | 0, _ => ⟨_, rfl, by decide⟩ | 1, _ => ⟨_, rfl, by decide⟩ | 2, _ => ⟨_, rfl, by decide⟩ | 3, _ => ⟨_, rfl, by decide⟩ | 4, _ => ⟨_, rfl, by decide⟩
  | 5, _ => ⟨_, rfl, by decide⟩ | 6, _ => ⟨_, rfl, by decide⟩ | 7, _ => ⟨_, rfl, by decide⟩ | 8, _ => ⟨_, rfl, by decide⟩ | 9, _ => ⟨_, rfl, by decide⟩
  | 10, _ => ⟨_, rfl, by decide⟩ | 11, _ => ⟨_, rfl, by decide⟩ | 12, _ => ⟨_, rfl, by decide⟩ | 13, _ => ⟨_, rfl, by decide⟩ | 14, _ => ⟨_, rfl, by decide⟩
  | 15, _ => ⟨_, rfl, by decide⟩ | 16, _ => ⟨_, rfl, by decide⟩ | 17, _ => ⟨_, rfl, by decide⟩ | 18, _ => ⟨_, rfl, by decide⟩ | 19, _ => ⟨_, rfl, by decide⟩
  | n + 20, h => by omega
theorem OpName_eq (op : Int) (h : 1 ≤ op ∧ op ≤ 20) : ∃ t, i_OpName op = some t ∧ s_OpName op = some t ∧ t.length ≤ 20 := by
  obtain ⟨i, hi⟩ : ∃ i : Nat, op - 1 = (i : Int) := ⟨(op - 1).toNat, by omega⟩
  obtain ⟨t, e1, e2⟩ := opNames_len i (by omega)
  have c : I64 (op - 1) := show -9223372036854775808 ≤ op - 1 ∧ op - 1 ≤ 9223372036854775807 by omega
  refine ⟨t, ?_, ?_, e2⟩
  · unfold i_OpName
    rw [if_neg (by omega), if_neg (by omega), chk_t c, hi, e1, bnd_eq]
  · unfold s_OpName
    have hin : s_l1In op 1 20 = some true := by unfold s_l1In; rw [if_pos (by omega)]; simp; omega
    rw [hin, bnd_eq, if_pos rfl, chk_t c, hi]
    show bnd (nth x_opNames (i : Int)) _ = _
    rw [e1, bnd_eq]
theorem FormatInstr_eq (x : PInstr) (hw : wD x.d ≤ 1048576) : ∃ t, i_FormatInstr x = some t ∧ s_FormatInstr x = some t ∧ (instrOK x = true → t.length ≤ 20 + 1 + 17 * 1048576 + 16) := by
  have hs := small_wD hw
  unfold i_FormatInstr s_FormatInstr
  rw [i_instrOk_eq x hs, s_l10Instr_eq x hs, bnd_eq, bnd_eq]
  cases hok : instrOK x
  · exact ⟨_, rfl, rfl, fun h => by cases h⟩
  rw [if_pos rfl, if_pos rfl]
  unfold instrOK inside at hok
  rw [Bool.and_eq_true] at hok
  have hop : 1 ≤ x.op ∧ x.op ≤ 20 := by simpa using hok.1
  obtain ⟨t, e1, e2, e3⟩ := OpName_eq x.op hop
  by_cases h1 : x.op = 1
  · rw [if_pos h1] at hok
    have hv : x.d.valid = true := by have := hok.2; simp only [Bool.and_eq_true] at this; exact this.2
    have ho : x.d.okAll = true := by
      unfold valid at hv; simp only [Bool.and_eq_true] at hv; exact hv.2.2
    have hl := fmt_len.1 x.d ho
    rw [if_pos h1, if_pos h1, e1, bnd_eq, e2, bnd_eq, chk_t (by simp; omega), chk_t (by simp; omega), i_FormatDatum_eq x.d hv hw, bnd_eq, s_l1Format_eq RF x.d (RF_cnt hs) ho hs hw, bnd_eq, chk_t (by simp; omega)]
    exact ⟨_, rfl, rfl, fun _ => by simp; omega⟩
  · rw [if_neg h1] at hok
    have ha : 0 ≤ x.a ∧ x.a ≤ 4000 := by
      have := hok.2; simp only [Bool.and_eq_true] at this; simpa using this.2.1
    have hi := itoa_len x.a (by omega)
    rw [if_neg h1, if_neg h1]
    unfold s_l10Plain
    by_cases h14 : x.op = 14
    · rw [if_pos h14, if_pos h14, bnd_eq, if_pos rfl, e1, e2, bnd_eq]
      exact ⟨_, rfl, rfl, fun _ => by omega⟩
    rw [if_neg h14, if_neg h14, bnd_eq]
    by_cases h17 : x.op = 17
    · rw [if_pos h17, if_pos (by simp [h17]), e1, e2, bnd_eq]
      exact ⟨_, rfl, rfl, fun _ => by omega⟩
    rw [if_neg h17, if_neg (by simp [h17]), e1, e2, bnd_eq, bnd_eq, chk_t (by simp; omega), chk_t (by simp; omega), i_FormatNumber_eq _ (by omega), s_FormatNumber_eq _ (by omega), bnd_eq, chk_t (by simp; omega)]
    exact ⟨_, rfl, rfl, fun _ => by simp; omega⟩
end Go.Abs
