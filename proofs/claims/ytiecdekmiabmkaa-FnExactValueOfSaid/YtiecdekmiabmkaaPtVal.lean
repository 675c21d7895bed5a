/-
  Plain: the law of ValueOf.
-/
import Derived.Test.YtiecdekmiabmkaaPsV
set_option linter.unusedVariables false
set_option linter.unusedSimpArgs false
namespace Go.Abs
open PDat

theorem wf_small_smalls {ps : List PPair} (h : wts wP ps ≤ 1048576) : ps.length ≤ 1048576 := by
  have h' : ps.length + wsum wP ps ≤ 1048576 := h
  omega
def nilV : PVal := PVal.mk 0 0 ([] : List UInt8)
def valOf (d : PDat) (ps : List PPair) : Option (PVal × List PPair × Bool) :=
  if d.valid = true then
    if arePairs ps = true then
      if (ps.length : Int) + d.cnt > 2000 then some (nilV, ps, false) else bnd (s_l8Quote RF d ps) fun x => some (x.1, x.2, true)
    else some (nilV, ps, false)
  else some (nilV, ps, false)
theorem s_ValueOf_eq (d : PDat) (ps : List PPair) (hd : d.small) (hp : pairsSmall ps) : s_ValueOf d ps = valOf d ps := by
  have h1 := hp.1
  have h2 := hd.2
  unfold s_ValueOf valOf nilV
  rw [chk_t (by simp; omega), s_IsDatum_eq d hd, s_ArePairs_eq ps hp, s_l8Cells_eq RF d (RF_cnt hd) h2]
  simp only [bnd_eq, List.nil_append]
  rw [chk_t (by omega)]
theorem i_ValueOf_eq (d : PDat) (ps : List PPair) (hd : d.small) (hp : pairsSmall ps) : i_ValueOf d ps = valOf d ps := by
  have h1 := hp.1
  have h2 := hd.2
  unfold i_ValueOf valOf nilV
  rw [chk_t (by omega), i_IsDatum_eq d hd, i_ArePairs_eq ps hp, i_itemsIn_eq RF d (RF_cnt hd) h2, i_valueOf_is]
  simp only [bnd_eq]
  rw [chk_t (by omega)]
theorem valOf_some (d : PDat) (ps : List PPair) (hd : d.small) (hp : pairsSmall ps) : ∃ r, valOf d ps = some r ∧ r.2.1.length ≤ 1048576 := by
  have h1 := hp.1
  unfold valOf
  split
  · split
    · split
      · exact ⟨_, rfl, h1⟩
      · rename_i h
        obtain ⟨r, g1, g2⟩ := s_l8Quote_some RF d ps (RF_cnt hd) (by omega)
        rw [g1, bnd_eq]
        exact ⟨_, rfl, by show r.2.length ≤ _; omega⟩
    · exact ⟨_, rfl, h1⟩
  · exact ⟨_, rfl, h1⟩
theorem markDatum_some (d : PDat) (k : Int) (h : wD d ≤ 1048576) (h0 : 0 ≤ k) (h1 : k ≤ 1000) : ∃ k' ds', w_markDatum d k = some (k', ds') ∧ ds'.length = d.items.length ∧ 0 ≤ k' ∧ k' ≤ 100000000 := by
  have e := wD_eq d
  have hc := cnt_wD.1 d
  have hc2 := cnt_eq d
  unfold w_markDatum
  obtain ⟨k', ds', e1, e2, e3, e4⟩ := markDatumS_some RF d.items k (by rw [RF_eq]; omega) (by omega) (by omega) (by omega)
  rw [e1, bnd_eq]
  exact ⟨k', ds', chk_t e2, e2, by omega, by omega⟩
theorem w_FnExactValueOf_true (d : PDat) (ps : List PPair) (hd : d.wf) (hp : ps.length ≤ 9223372036854775807 ∧ ∀ p ∈ ps, p.wf) : w_FnExactValueOf d ps = some true := by
  unfold w_FnExactValueOf
  rw [(w_sz_eq RF).1 d hd _ (by omega) (by omega) (by rw [RF_eq]; omega), bnd_eq]
  by_cases h : szw (wD d) 1048576 < 0
  · rw [if_pos h]
  have f := szw_pos h
  rw [if_neg h, szPairS_eq ps hp _ (by omega) (by omega), bnd_eq]
  by_cases g : szw (wts wP ps) (szw (wD d) 1048576) < 0
  · rw [if_pos g]
  have f2 := szw_pos g
  have hs : d.small := small_wD (by omega)
  have hps : pairsSmall ps := small_wP (by omega)
  have hl := hps.1
  obtain ⟨⟨r1, r2, r3⟩, hr, hrl⟩ := valOf_some d ps hs hps
  simp only at hrl
  obtain ⟨k', ds', e1, e2, e3, e4⟩ := markDatum_some d 1 (by omega) (by omega) (by omega)
  obtain ⟨a', m1, m2, m3⟩ := markPairS_some ps k' hl e3 (by omega)
  obtain ⟨b', n1, n2, n3⟩ := markPairS_some r2 1 hrl (by omega) (by omega)
  rw [if_neg g]
  simp only [toDatum_eq hs, toPairS_eq ps hl, s_ValueOf_eq d ps hs hps, i_ValueOf_eq d ps hs hps, hr, bnd_eq, eqValue_refl, eqPairS_refl _ hrl, eqDatum_eq hs, eqPairS_refl _ hl, if_true, e1, m1, n1]
  rw [chk_t e2, chk_t m2, if_neg (by omega), chk_t n2, heldPairS_eq b' (by omega) (by rw [n2]; exact n3), n2]
  simp only [bnd_eq, if_true]
  rw [if_neg (by omega), if_neg (by omega)]
end Go.Abs
