
import Derived.Test.YtmgigglpdhoneaaLibT
set_option linter.unusedVariables false
set_option linter.unusedSimpArgs false
namespace Go.Abs
open PD
def wOs (l : List PObj) : Nat := wts wO l
theorem yM (l : List PObj) (h : l.length ≤ 9223372036854775807 ∧ ∀ o ∈ l, o.ok) (n : Int) (h0 : 0 ≤ n) (h1 : n ≤ 1048576) : aD l n = some (szw (wts wO l) n) := by
 unfold aD
 exact szS_eq (L := bR l) (E := X9) wO l n (fun x hx m a b => szObject_eq x (h.2 x hx) m a (by omega)) (fun go left i => rfl) ⟨h0, h1⟩ h.1
theorem wO_mem {l : List PObj} {o : PObj} (h : o ∈ l) : wO o ≤ wts wO l := by
 have := U1 (wt := wO) h
 have e : wts wO l = l.length + wsum wO l := rfl
 omega
theorem yP (l : List PObj) (hl : l.length ≤ 1048576) (hs : ∀ o ∈ l, o.small) : F3 l = some l := by
 unfold F3
 exact yQ (L := U0 l) (T := P5) _ l 96 (by omega) hl (fun x hx => toObject_eq x (hs x hx)) (fun go i out => rfl)
theorem wE (l : List PObj) (hl : l.length ≤ 1048576) (hs : ∀ o ∈ l, o.small) : Z6 l l = some true := by
 unfold Z6
 exact nD (L := bL l l) (E := X8) l hl (fun x hx => eqObject_eq x (hs x hx)) (fun go i => rfl)
theorem mR (xs : List PObj) (hw : wts wO xs ≤ 1048576) : ∃ k' xs', R3 xs 1 = some (k', xs') ∧ xs'.length = xs.length ∧ 0 ≤ k' := by
 unfold R3
 have hlen : xs.length ≤ wts wO xs := by unfold wts; omega
 have key := jO wO xs (L := W7) 1 (1 + 6 * ((wts wO xs : Nat) : Int)) (by omega) (Int.le_refl _) (fun go i hi k1 a ha hai hk hB => ?_) (fun go k1 a ha => ?_)
 ·obtain ⟨k', xs', e1, e2, e3, e4⟩ := key
  exact ⟨k', xs', e1, e2, by omega⟩
 ·show ∃ k2 y, z2 go k1 (i : Int) a = _ ∧ _
  unfold z2
  have hia : i < a.length := by omega
  have hx : a[i] = xs[i] := by
   rw [List.getElem?_eq_getElem hia] at hai; exact Option.some.inj hai
  have hwm := wO_mem (List.getElem_mem hi)
  have hwo : wO xs[i] = xs[i].name.length + xs[i].defines.length + xs[i].uses.length + wM xs[i].image := rfl
  have hwc : wM xs[i].image = wts wC xs[i].image.codes := rfl
  have c0 : ∀ l : LI, wts (fun _ => 0) l = l.length := wts_0
  have d1 := eQ (wt := fun _ => 0) mI_le xs[i].defines (k1 + 1)
  have d2 := eQ (wt := fun _ => 0) mI_le xs[i].uses (mAll mI (k1 + 1) xs[i].defines).1
  have d3 := eQ mC_le xs[i].image.codes (mAll mI (mAll mI (k1 + 1) xs[i].defines).1 xs[i].uses).1
  rw [c0] at d1 d2
  obtain ⟨t, ht⟩ := X0 k1 (by omega)
  simp only [Int.toNat_natCast, List.set_set]
  rw [if_pos (by omega), ht, f8, n6 hia, f8, j2 (by omega), z9 hia, f8, hx]
  dsimp only
  rw [pB xs[i].defines (k1 + 1) (by omega) (by omega) (by omega), f8]
  refine ⟨(mAll mC (mAll mI (mAll mI (k1 + 1) xs[i].defines).1 xs[i].uses).1 xs[i].image.codes).1 + 1, PObj.mk t (mAll mI (k1 + 1) xs[i].defines).2 (mAll mI (mAll mI (k1 + 1) xs[i].defines).1 xs[i].uses).2 (PImage.mk (mAll mC (mAll mI (mAll mI (k1 + 1) xs[i].defines).1 xs[i].uses).1 xs[i].image.codes).2 (mAll mC (mAll mI (mAll mI (k1 + 1) xs[i].defines).1 xs[i].uses).1 xs[i].image.codes).1), (j2 (M9 mI xs[i].defines _)).trans ?_, ?_⟩
  ·rw [z9 hia, f8]
   dsimp only
   rw [pB xs[i].uses _ (by omega) (by omega) (by omega), f8]
   refine (j2 (M9 mI xs[i].uses _)).trans ?_
   rw [z9 hia, f8]
   dsimp only
   rw [xF xs[i].image.codes _ (by omega) (by omega) (by omega), f8]
   refine (j2 (M9 mC xs[i].image.codes _)).trans ?_
   rw [z9 hia, f8, j2 (by omega), j2 (by omega)]
  ·omega
 ·show z2 go k1 (xs.length : Int) a = _
  unfold z2
  rw [if_neg (by omega)]
theorem bI (l : List PObj) (h : l.length ≤ 9223372036854775807 ∧ ∀ o ∈ l, o.ok) : F4 l = some true := by
 unfold F4
 rw [yM l h _ (by omega) (by omega), f8]
 by_cases hz : szw (wts wO l) 1048576 < 0
 ·rw [if_pos hz]
 have hw : wts wO l ≤ 1048576 := by have := (szw_pos hz).2; omega
 have hlen : l.length ≤ 1048576 := by unfold wts at hw; omega
 have hs : ∀ o ∈ l, o.small := fun o ho => small_wO (by have := wO_mem ho; omega)
 have hg := linkR_good hs hw
 have ei := mM l hs
 have es := mV l hs
 generalize linkR l = r at hg ei es
 obtain ⟨gs, gw⟩ := hg
 obtain ⟨k', xs', m1, m2, m3⟩ := mR l hw
 obtain ⟨n1, n2, n3⟩ := mImage_eq r.1 (by omega)
 have n4 := hImage_eq r.1 r.1.main (by omega)
 rw [if_neg hz]
 simp only [yP l hlen hs, f8, es, ei, sB r.1 gs, if_true, wE l hlen hs, m1]
 rw [j2 m2, if_neg (by show ¬ k' < 0; omega)]
 simp only [n1, f8]
 rw [j2 n2]
 simp only [n4, f8]
 rw [if_neg (by omega)]
 simp only [if_true]
 rw [if_neg (by omega)]
end Go.Abs
