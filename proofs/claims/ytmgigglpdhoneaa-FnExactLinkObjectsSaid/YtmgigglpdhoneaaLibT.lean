
import Derived.Test.YtmgigglpdhoneaaLibS
import Derived.Test.YtmgigglpdhoneaaLibP
set_option linter.unusedVariables false
set_option linter.unusedSimpArgs false
namespace Go.Abs
theorem mget_mput (m : MI) (k v j : Int) : mget (mput m k v) j = if j = k then v else mget m j := by
 unfold mget
 induction m with
 | nil =>
  unfold mput mlook
  by_cases h : j = k
  ·simp [h]
  ·simp [h, mlook]
 | cons p r ih =>
  unfold mput
  by_cases h : k = p.1
  ·rw [if_pos h]
   unfold mlook
   by_cases h2 : j = k
   ·rw [if_pos h2, if_pos h2]; rfl
   ·rw [if_neg h2, if_neg h2, if_neg (by omega)]
  ·rw [if_neg h]
   unfold mlook
   by_cases h2 : j = p.1
   ·rw [if_pos h2, if_pos h2, if_neg (by omega)]
   ·rw [if_neg h2, if_neg h2, ih]
def Knows (seen : LI) (m : MI) : Prop := ∀ k, decide (mget m k = 1) = seen.any fun y => decide (y = k)
theorem knows_nil : Knows [] [] := fun k => by simp [mget, mlook]
theorem knows_put {seen : LI} {m : MI} (h : Knows seen m) (x : Int) : Knows (seen ++ [x]) (mput m x 1) := fun k => by
 rw [mget_mput, List.any_append]
 simp only [List.any_cons, List.any_nil, Bool.or_false]
 by_cases e : k = x
 ·subst e; simp
 ·rw [if_neg e, h k, decide_eq_false (fun h => e h.symm)]; simp
theorem mL : ∀ (a b seen : LI), uniqs seen (a ++ b) = (uniqs seen a && uniqs (seen ++ a) b)
 | [], b, seen => by simp [uniqs]
 | x :: a, b, seen => by
  simp only [List.cons_append, uniqs]
  rw [mL a b (seen ++ [x])]
  simp [Bool.and_assoc]
theorem rZ (x2 : Int) (go4 : Int × MI → Option Bool) (l : LI) (hl : l.length ≤ 4611686018427387904) (hx : 0 ≤ x2 ∧ x2 ≤ 100) (y : Option Bool) (seen : LI) (hgo : ∀ m, Knows (seen ++ l) m → go4 (x2 + 1, m) = y) {m : MI} (hm : Knows seen m) :
 itr (B0 x2 go4 l) LF (0, m) = if uniqs seen l = true then y else some false := by
 have := u9 (L := B0 x2 go4 l) l.length (fun i m => Knows (seen ++ l.take i) m) (fun i _ => if uniqs (seen ++ l.take i) (l.drop i) = true then y else some false) (by omega) (a := m) (fun go i m hi hI hgo => ?_) (fun go m hI => ?_) (by simpa using hm)
 ·simpa using this
 ·show o3 x2 go4 l go (i : Int) m = _
  unfold o3
  rw [if_pos (by omega), n6 hi, f8, List.drop_eq_getElem_cons hi, uniqs]
  have hk := hI l[i]
  have hI' : Knows (seen ++ l.take (i + 1)) (mput m l[i] 1) := by
   rw [← List.take_append_getElem hi, ← List.append_assoc]; exact knows_put hI _
  have hin : inside l[i] 0 99999 = (!decide (l[i] < 0) && !decide (l[i] > 99999)) := by
   unfold inside
   rw [Bool.eq_iff_iff]; simp; try omega
  rw [j2 (by omega), hgo _ hI', ← hk, hin, ← List.take_append_getElem hi, ← List.append_assoc]
  by_cases h1 : l[i] < 0
  ·rw [if_pos h1, decide_eq_true h1]; simp
  ·rw [if_neg h1, decide_eq_false h1]
   by_cases h2 : l[i] > 99999
   ·rw [if_pos h2, decide_eq_true h2]; simp
   ·rw [if_neg h2, decide_eq_false h2]
    by_cases h3 : mget m l[i] = 1
    ·rw [if_pos h3, decide_eq_true h3]; simp
    ·rw [if_neg h3, decide_eq_false h3]; simp
 ·show o3 x2 go4 l go (l.length : Int) m = _
  unfold o3
  rw [if_neg (by omega), List.drop_length, j2 (by omega), uniqs, if_pos rfl]
  rw [List.take_length] at hI
  exact hgo _ hI
theorem cD (a b : LI) (ha : a.length ≤ 1048576) (hb : b.length ≤ 1048576) : A7 [a, b] = some (uniqs [] (a ++ b)) := by
 unfold A7
 have h3 : ∀ m, ∀ n, itr (o7 [a, b]) (n + 1) (2, m) = some true := fun m n => by
  show m5 [a, b] (itr (o7 [a, b]) n) 2 m = _
  unfold m5
  rw [if_neg (by simp)]
 have h2 : ∀ m, Knows a m → ∀ n, itr (o7 [a, b]) (n + 2) (1, m) = some (uniqs a b) := fun m hm n => by
  show m5 [a, b] (itr (o7 [a, b]) (n + 1)) 1 m = _
  unfold m5
  rw [if_pos (by simp), show nth [a, b] 1 = some b from rfl, f8]
  rw [rZ 1 _ b (by omega) (by omega) (some true) a (fun m' _ => h3 m' n) hm]
  cases uniqs a b <;> rfl
 obtain ⟨k, hk⟩ : ∃ k, LF = k + 3 := ⟨LF - 3, by have := LF_eq; omega⟩
 rw [hk]
 show m5 [a, b] (itr (o7 [a, b]) (k + 2)) 0 [] = _
 unfold m5
 rw [if_pos (by simp), nth_0, f8]
 rw [rZ 0 _ a (by omega) (by omega) (some (uniqs a b)) [] (fun m' hm' => h2 m' (by simpa using hm') _) knows_nil, mL, List.nil_append]
 cases uniqs [] a <;> simp
def PObj.ok (o : PObj) : Prop := o.name.length ≤ 9223372036854775807 ∧ (o.defines.length ≤ 9223372036854775807 ∧ ∀ n ∈ o.defines, IntKind.i64.min ≤ n ∧ n ≤ IntKind.i64.max) ∧ (o.uses.length ≤ 9223372036854775807 ∧ ∀ n ∈ o.uses, IntKind.i64.min ≤ n ∧ n ≤ IntKind.i64.max) ∧ o.image.ok
def wO (o : PObj) : Nat := o.name.length + o.defines.length + o.uses.length + wM o.image
def PObj.small (o : PObj) : Prop := o.name.length ≤ 1048576 ∧ o.defines.length ≤ 1048576 ∧ o.uses.length ≤ 1048576 ∧ o.image.small
theorem yL (xs : LI) (n : Int) (hx : xs.length ≤ 9223372036854775807) (h0 : 0 ≤ n) (h1 : n ≤ 1048576) : gK xs n = some (szw xs.length n) := by
 unfold gK szw
 rw [j2 (by omega)]
 split <;> rfl
theorem szObject_eq (o : PObj) (h : o.ok) (n : Int) (h0 : 0 ≤ n) (h1 : n ≤ 1048576) : X9 o n = some (szw (wO o) n) := by
 have hw : szw (wO o) n = szw (wM o.image) (szw o.uses.length (szw o.defines.length (szw o.name.length n))) := by rw [lQ, lQ, lQ]; unfold wO; congr 1; omega
 unfold X9
 have := h.1
 rw [j2 (by omega), hw]
 by_cases e : n - (o.name.length : Int) < 0
 ·have e1 : szw o.name.length n = -1 := by unfold szw; rw [if_pos e]
  rw [if_pos e, e1, bG (w := o.defines.length) (by unfold szw; rw [if_pos (by omega)]; omega), bG (w := o.uses.length) (by unfold szw; rw [if_pos (by omega)]; omega), bG (w := wM o.image) (by unfold szw; rw [if_pos (by omega)]; omega)]
 ·have e1 : szw o.name.length n = n - o.name.length := by unfold szw; rw [if_neg e]
  rw [if_neg e, e1, yL _ _ h.2.1.1 (by omega) (by omega), f8]
  by_cases f : szw o.defines.length (n - o.name.length) < 0
  ·rw [if_pos f, bG f, bG (w := o.uses.length) (by unfold szw; rw [if_pos (by omega)]; omega), bG (w := wM o.image) (by unfold szw; rw [if_pos (by omega)]; omega)]
  ·have f1 := szw_pos f
   rw [if_neg f, yL _ _ h.2.2.1.1 (by omega) (by omega), f8]
   by_cases g : szw o.uses.length (szw o.defines.length (n - o.name.length)) < 0
   ·rw [if_pos g, bG g, bG (w := wM o.image) (by unfold szw; rw [if_pos (by omega)]; omega)]
   ·have g1 := szw_pos g
    rw [if_neg g, szImage_eq _ h.2.2.2 _ (by omega) (by omega), f8, yN]
theorem small_wO {o : PObj} (h : wO o ≤ 1048576) : o.small := by
 unfold wO at h
 exact ⟨by omega, by omega, by omega, small_wM (by omega)⟩
theorem yO (xs : LI) (h : xs.length ≤ 1048576) : eE xs = some xs := by
 unfold eE
 exact toS_eq' (L := iP xs) (0 : Int) xs 8 (by omega) h (fun go i out => rfl)
theorem oI (xs : LI) (h : xs.length ≤ 1048576) : gI xs xs = some true := by
 unfold gI
 exact eqS_refl' (L := iO xs xs) xs h (fun go i => rfl)
theorem toObject_eq (o : PObj) (h : o.small) : P5 o = some o := by
 unfold P5
 rw [yO _ h.2.1, f8, yO _ h.2.2.1, f8, toImage_eq _ h.2.2.2, f8]
theorem eqObject_eq (o : PObj) (h : o.small) : X8 o o = some true := by
 unfold X8
 rw [if_pos rfl, oI _ h.2.1, f8, if_pos rfl, oI _ h.2.2.1, f8, if_pos rfl, sB _ h.2.2.2, f8, if_pos rfl]
theorem xB (xs : LI) (h : xs.length ≤ 1048576) : gD xs = some xs := by
 unfold gD
 rw [j2 (by simp; omega)]; rfl
def isObj (o : PObj) : Bool := isShort o.name && (uniqs [] (o.defines ++ o.uses) && isImg o.image ((o.defines.length : Int) + o.uses.length))
theorem uK (o : PObj) (h : o.small) (hs : SM o.name) : cK o = some (isObj o) := by
 unfold cK isObj
 rw [xB _ h.2.1, f8, j2 (by have := h.2.1; have := h.2.2.1; omega), s_l7Name_eq _ hs, f8, uV _ (by have := h.2.1; have := h.2.2.1; simp; omega), mA _ h.2.2.2]
 simp only [f8, List.length_append, Int.natCast_add]
 cases isShort o.name <;> cases uniqs [] (o.defines ++ o.uses) <;> simp
theorem tN (o : PObj) (h : o.small) (hs : SM o.name) : bZ o = some (isObj o) := by
 unfold bZ isObj
 rw [mP _ hs, f8, cD _ _ h.2.1 h.2.2.1, j2 (by have := h.2.1; have := h.2.2.1; omega), lU _ h.2.2.2]
 simp only [f8]
 cases isShort o.name <;> cases uniqs [] (o.defines ++ o.uses) <;> simp
end Go.Abs

namespace Go.Abs
open PD
theorem itr_ex {σ R : Type} {L : (σ → Option R) → σ → Option R} (Q : R → Prop) (P : σ → Prop) (μ : σ → Nat)
 (step : ∀ go v, P v → (∀ v', P v' → μ v' < μ v → ∃ r, go v' = some r ∧ Q r) → ∃ r, L go v = some r ∧ Q r) : ∀ n v, P v → μ v < n → ∃ r, itr L n v = some r ∧ Q r
 | 0, v, _, h => by omega
 | n + 1, v, hp, h => step (itr L n) v hp fun v' hp' hm => itr_ex Q P μ step n v' hp' (by omega)
theorem tV {σ R : Type} {L : (σ → Option R) → σ → Option R} (Q : R → Prop) (P : σ → Prop) (μ : σ → Nat)
 (step : ∀ go v, P v → (∀ v', P v' → μ v' < μ v → ∃ r, go v' = some r ∧ Q r) → ∃ r, L go v = some r ∧ Q r) (v : σ) (hp : P v) (h : μ v < 18446744073709551616) : ∃ r, itr L LF v = some r ∧ Q r := by
 rw [LF_eq]; exact itr_ex Q P μ step _ v hp h
theorem X0 (k : Int) (h : k ≤ 4611686018427387904) : ∃ t, G1 k = some t := by
 unfold G1
 by_cases h0 : k ≤ 0
 ·rw [if_pos h0]; exact ⟨_, rfl⟩
 ·rw [if_neg h0]
  have := tV (L := dZ) (fun _ => True) (fun v => 0 ≤ v.1 ∧ v.1 + v.2.length ≤ 4611686018427387904) (fun v => v.1.toNat) (fun go v hv hgo => ?_) (k, []) ⟨by omega, by simpa using h⟩ (by omega)
  ·obtain ⟨t, h1, _⟩ := this; exact ⟨t, h1⟩
  ·obtain ⟨k, out⟩ := v
   show ∃ r, L9 go k out = some r ∧ True
   unfold L9
   have h1 : 0 ≤ k := hv.1
   have h2 : k + (out.length : Int) ≤ 4611686018427387904 := hv.2
   by_cases hk : k > 0
   ·rw [if_pos hk, j2 (by omega), j2 (by omega), j2 (by omega), j2 (by simp; omega), j2 (by omega)]
    exact hgo _ ⟨by show 0 ≤ k / 10; omega, by simp; omega⟩ (by show (k / 10).toNat < k.toNat; omega)
   ·rw [if_neg hk, j2 (by simp; omega)]
    exact ⟨_, rfl, trivial⟩
theorem z9 {α : Type} {l : List α} {i : Nat} {v : α} (h : i < l.length) : nth (l.set i v) (i : Int) = some v := by
 rw [n6 (by simpa using h)]; simp
theorem kO {α : Type} (wt : α → Nat) (x : α) (r : List α) : wts wt (x :: r) = 1 + wt x + wts wt r := by
 unfold wts; simp only [List.length_cons, List.map_cons, List.sum_cons]; omega
theorem jO {α : Type} (wt : α → Nat) (xs : List α) {L : (Int × Int × List α → Option (Int × List α)) → Int × Int × List α → Option (Int × List α)} (k0 B : Int) (hn : xs.length ≤ 1048576) (hB : k0 + 6 * (wts wt xs : Nat) ≤ B)
 (step : ∀ go (i : Nat) (hi : i < xs.length) k a, a.length = xs.length → a[i]? = some xs[i] → k0 ≤ k → k + 6 * ((1 + wt xs[i] : Nat) : Int) ≤ B → ∃ k2 y, L go (k, (i : Int), a) = go (k2, (i : Int) + 1, a.set i y) ∧ k ≤ k2 ∧ k2 ≤ k + 6 * ((1 + wt xs[i] : Nat) : Int))
 (fin : ∀ go k a, a.length = xs.length → L go (k, (xs.length : Int), a) = some (k, a)) :
 ∃ k' a', itr L LF (k0, 0, xs) = some (k', a') ∧ a'.length = xs.length ∧ k0 ≤ k' ∧ k' ≤ B := by
 have := tV (L := L) (fun r => r.2.length = xs.length ∧ k0 ≤ r.1 ∧ r.1 ≤ B) (fun v => (0 ≤ v.2.1 ∧ v.2.1 ≤ xs.length) ∧ v.2.2.length = xs.length ∧ v.2.2.drop v.2.1.toNat = xs.drop v.2.1.toNat ∧ k0 ≤ v.1 ∧ v.1 + 6 * ((wts wt (xs.drop v.2.1.toNat) : Nat) : Int) ≤ B) (fun v => xs.length - v.2.1.toNat) (fun go v hv hgo => ?_) (k0, 0, xs) ⟨⟨Int.le_refl _, by show (0 : Int) ≤ _; omega⟩, rfl, rfl, Int.le_refl _, by simpa using hB⟩ (by show xs.length - 0 < _; omega)
 ·obtain ⟨r, h1, h2, h3, h4⟩ := this
  exact ⟨r.1, r.2, h1, h2, h3, h4⟩
 ·obtain ⟨k, j, a⟩ := v
  obtain ⟨⟨h1, h2⟩, h3, h4, h5, h6⟩ := hv
  simp only at h1 h2 h3 h4 h5 h6
  obtain ⟨i, rfl⟩ := Int.eq_ofNat_of_zero_le h1
  simp only [Int.ofNat_eq_natCast, Int.toNat_natCast] at *
  by_cases hi : i < xs.length
  ·have hai : a[i]? = some xs[i] := by
    have := congrArg (fun l => l[0]?) h4
    simpa [List.getElem?_drop, List.getElem?_eq_getElem hi] using this
   have hw : wts wt (xs.drop i) = 1 + wt xs[i] + wts wt (xs.drop (i + 1)) := by
    rw [List.drop_eq_getElem_cons hi, kO]
   obtain ⟨k2, y, e, g1, g2⟩ := step go i hi k a h3 hai h5 (by rw [hw] at h6; omega)
   rw [e]
   refine hgo (k2, (i : Int) + 1, a.set i y) ⟨⟨by show (0 : Int) ≤ (i : Int) + 1; omega, by show (i : Int) + 1 ≤ _; omega⟩, by simpa using h3, ?_, by show k0 ≤ k2; omega, ?_⟩ ?_
   ·have e2 : ((i : Int) + 1).toNat = i + 1 := by omega
    show (a.set i y).drop ((i : Int) + 1).toNat = xs.drop ((i : Int) + 1).toNat
    rw [e2, List.drop_set_of_lt (by omega)]
    have := congrArg (List.drop 1) h4
    simpa [List.drop_drop, Nat.add_comm] using this
   ·have e2 : ((i : Int) + 1).toNat = i + 1 := by omega
    show k2 + 6 * ((wts wt (xs.drop ((i : Int) + 1).toNat) : Nat) : Int) ≤ B
    rw [e2]
    rw [hw] at h6
    omega
   ·show xs.length - ((i : Int) + 1).toNat < xs.length - (i : Int).toNat
    omega
  ·have : i = xs.length := by omega
   subst this
   rw [fin go k a h3]
   refine ⟨_, rfl, h3, h5, ?_⟩
   rw [List.drop_length] at h6
   have h0 : wts wt ([] : List α) = 0 := rfl
   rw [h0] at h6
   show k ≤ B
   omega
theorem aP (k n : Int) (t : LB) (is : List PD) : (PD.mk k n t is).items = is := rfl
theorem eS (k n : Int) (t : LB) (is : List PD) : (PD.mk k n t is).kind = k := rfl
theorem U7 (k n : Int) (t : LB) (is : List PD) : (PD.mk k n t is).number = n := rfl
theorem eT (k n : Int) (t : LB) (is : List PD) : (PD.mk k n t is).text = t := rfl
theorem eR : ∀ (n : Nat) (ds : List PD) (k : Int), cnts ds < n → wDs ds ≤ 1048576 → 0 ≤ k → k + 6 * ((wDs ds : Nat) : Int) ≤ 1000000000000 → ∃ k' ds', l6 n ds k = some (k', ds') ∧ ds'.length = ds.length ∧ k ≤ k' ∧ k' ≤ k + 6 * ((wDs ds : Nat) : Int)
 | 0, ds, k, h, _, _, _ => by omega
 | n + 1, ds, k, h, hc, h0, h1 => by
  show ∃ k' ds', F0 (l6 n) ds k = some (k', ds') ∧ _
  unfold F0
  have hl := cnts_len ds
  have hw := nZ.2 ds
  rw [yT] at h1 ⊢
  refine jO wD ds (L := R1 (l6 n)) k (k + 6 * ((wts wD ds : Nat) : Int)) (by omega) (Int.le_refl _) (fun go i hi k1 a ha hai hk hB => ?_) (fun go k1 a ha => ?_)
  ·show ∃ k2 y, p7 (l6 n) go k1 (i : Int) a = _ ∧ _
   unfold p7
   have hia : i < a.length := by omega
   have hm := vA (List.getElem_mem hi)
   have hmem := cnts_mem (List.getElem_mem hi)
   have hx : a[i] = ds[i] := by
    rw [List.getElem?_eq_getElem hia] at hai; exact Option.some.inj hai
   have hwi := qG ds[i]
   have hci := cnt_eq ds[i]
   obtain ⟨t, ht⟩ := X0 (k1 + 1 + 1) (by omega)
   obtain ⟨k', ds', e1, e2, e3, e4⟩ := eR n ds[i].items (k1 + 1 + 1 + 1) (by omega) (by omega) (by omega) (by omega)
   simp only [Int.toNat_natCast, List.set_set]
   rw [if_pos (by omega), n6 hia, f8, j2 (by omega), z9 hia, f8, j2 (by omega), ht, f8, z9 hia, f8, j2 (by omega), z9 hia, f8, hx]
   try simp only [aP, eS, U7, eT]
   rw [e1, f8]
   exact ⟨k', _, (j2 e2).trans (j2 (by omega)), by omega, by omega⟩
  ·show p7 (l6 n) go k1 (ds.length : Int) a = _
   unfold p7
   rw [if_neg (by omega)]
theorem pA (xs : List PInstr) (k : Int) (hw : wts wI xs ≤ 1048576) (h0 : 0 ≤ k) (h1 : k + 6 * ((wts wI xs : Nat) : Int) ≤ 1000000000000) : ∃ k' xs', K2 xs k = some (k', xs') ∧ xs'.length = xs.length ∧ k ≤ k' ∧ k' ≤ k + 6 * ((wts wI xs : Nat) : Int) := by
 unfold K2
 have hlen : xs.length ≤ wts wI xs := by unfold wts; omega
 refine jO wI xs (L := R2 xs) k (k + 6 * ((wts wI xs : Nat) : Int)) (by omega) (Int.le_refl _) (fun go i hi k1 a ha hai hk hB => ?_) (fun go k1 a ha => ?_)
 ·show ∃ k2 y, p8 xs go k1 (i : Int) a = _ ∧ _
  unfold p8
  have hia : i < a.length := by omega
  have hx : a[i] = xs[i] := by
   rw [List.getElem?_eq_getElem hia] at hai; exact Option.some.inj hai
  have hwm := U1 (wt := wI) (List.getElem_mem hi)
  have hws : wts wI xs = xs.length + wsum wI xs := rfl
  have hwi : wI xs[i] = wD xs[i].d := rfl
  have hwd := qG xs[i].d
  have hcc := nZ.2 xs[i].d.items
  obtain ⟨t, ht⟩ := X0 (k1 + 1 + 1 + 1 + 1) (by omega)
  obtain ⟨k', ds', e1, e2, e3, e4⟩ := eR RF xs[i].d.items (k1 + 1 + 1 + 1 + 1 + 1) (by rw [RF_eq]; omega) (by omega) (by omega) (by omega)
  simp only [Int.toNat_natCast, List.set_set]
  rw [if_pos (by omega), n6 hia, f8, j2 (by omega), z9 hia, f8, j2 (by omega), z9 hia, f8, j2 (by omega), z9 hia, f8, j2 (by omega), ht, f8, z9 hia, f8, j2 (by omega), z9 hia, f8, hx]
  try simp only [aP, eS, U7, eT]
  rw [e1, f8]
  exact ⟨k', _, (j2 e2).trans (j2 (by omega)), by omega, by omega⟩
 ·show p8 xs go k1 (xs.length : Int) a = _
  unfold p8
  rw [if_neg (by omega)]
theorem qZ (xs : List PCode) (k : Int) (hw : wts wC xs ≤ 1048576) (h0 : 0 ≤ k) (h1 : k + 6 * ((wts wC xs : Nat) : Int) ≤ 1000000000000) : ∃ k' xs', K1 xs k = some (k', xs') ∧ xs'.length = xs.length ∧ k ≤ k' ∧ k' ≤ k + 6 * ((wts wC xs : Nat) : Int) := by
 unfold K1
 have hlen : xs.length ≤ wts wC xs := by unfold wts; omega
 refine jO wC xs (L := T9) k (k + 6 * ((wts wC xs : Nat) : Int)) (by omega) (Int.le_refl _) (fun go i hi k1 a ha hai hk hB => ?_) (fun go k1 a ha => ?_)
 ·show ∃ k2 y, r8 go k1 (i : Int) a = _ ∧ _
  unfold r8
  have hia : i < a.length := by omega
  have hx : a[i] = xs[i] := by
   rw [List.getElem?_eq_getElem hia] at hai; exact Option.some.inj hai
  have hwm := U1 (wt := wC) (List.getElem_mem hi)
  have hws : wts wC xs = xs.length + wsum wC xs := rfl
  have hwi : wC xs[i] = wts wI xs[i].instrs := rfl
  obtain ⟨k', ds', e1, e2, e3, e4⟩ := pA xs[i].instrs (k1 + 1 + 1 + 1) (by omega) (by omega) (by omega)
  simp only [Int.toNat_natCast, List.set_set]
  rw [if_pos (by omega), n6 hia, f8, j2 (by omega), z9 hia, f8, j2 (by omega), z9 hia, f8, j2 (by omega), z9 hia, f8, hx]
  try simp only [aP, eS, U7, eT]
  rw [e1, f8]
  exact ⟨k', _, (j2 e2).trans (j2 (by omega)), by omega, by omega⟩
 ·show r8 go k1 (xs.length : Int) a = _
  unfold r8
  rw [if_neg (by omega)]
theorem markImage_some (m : PImage) (k : Int) (hw : wM m ≤ 1048576) (h0 : 0 ≤ k) (h1 : k ≤ 4000000) : ∃ k' xs', O4 m k = some (k', xs') ∧ xs'.length = m.codes.length ∧ k ≤ k' := by
 have hwm : wM m = wts wC m.codes := rfl
 obtain ⟨k', xs', e1, e2, e3, e4⟩ := qZ m.codes k (by omega) h0 (by omega)
 unfold O4
 rw [e1, f8, j2 e2]
 exact ⟨k', xs', rfl, e2, e3⟩
def nums (k : Int) : Nat → LI
 | 0 => []
 | n + 1 => k :: nums (k + 1) n
theorem nums_len : ∀ (n : Nat) (k : Int), (nums k n).length = n
 | 0, _ => rfl
 | n + 1, k => by simp [nums, nums_len n]
theorem nums_get : ∀ (n : Nat) (k : Int) (i : Nat), i < n → (nums k n)[i]? = some (k + i)
 | 0, _, _, h => by omega
 | n + 1, k, 0, _ => by simp [nums]
 | n + 1, k, i + 1, h => by
  have := nums_get n (k + 1) i (by omega)
  simp only [nums, List.getElem?_cons_succ, this]
  congr 1; omega
theorem markIntS_some (xs : LI) (hn : xs.length ≤ 1048576) : P4 xs 1 = some (1 + (xs.length : Int), nums 1 xs.length) := by
 unfold P4
 have := tV (L := X2) (fun r => r = (1 + (xs.length : Int), nums 1 xs.length)) (fun v => (0 ≤ v.2.1 ∧ v.2.1 ≤ xs.length) ∧ v.1 = 1 + v.2.1 ∧ v.2.2.length = xs.length ∧ ∀ i : Nat, (i : Int) < v.2.1 → v.2.2[i]? = some (1 + (i : Int))) (fun v => xs.length - v.2.1.toNat) (fun go v hv hgo => ?_) (1, 0, xs) ⟨⟨by show (0:Int) ≤ 0; omega, by show (0 : Int) ≤ _; omega⟩, rfl, rfl, fun i hi => by have : (i : Int) < 0 := hi; omega⟩ (by show xs.length - 0 < _; omega)
 ·obtain ⟨r, h1, h2⟩ := this; rw [h1, h2]
 ·obtain ⟨k, j, a⟩ := v
  obtain ⟨⟨h1, h2⟩, h3, h4, h5⟩ := hv
  simp only at h1 h2 h3 h4 h5
  obtain ⟨i, rfl⟩ := Int.eq_ofNat_of_zero_le h1
  simp only [Int.ofNat_eq_natCast] at *
  show ∃ r, z8 go k (i : Int) a = some r ∧ _
  unfold z8
  by_cases hi : i < xs.length
  ·rw [if_pos (by omega), n6 (by omega), f8, j2 (by omega), j2 (by omega), Int.toNat_natCast]
   refine hgo (k + 1, (i : Int) + 1, a.set i k) ⟨⟨by show (0 : Int) ≤ (i : Int) + 1; omega, by show (i : Int) + 1 ≤ _; omega⟩, by show k + 1 = 1 + ((i : Int) + 1); omega, by simpa using h4, fun m hm => ?_⟩ (by show xs.length - ((i : Int) + 1).toNat < xs.length - (i : Int).toNat; omega)
   have hm' : (m : Int) < (i : Int) + 1 := hm
   show (a.set i k)[m]? = _
   by_cases e : i = m
   ·subst e
    rw [List.getElem?_set_self (by omega), h3]
   ·rw [List.getElem?_set_ne e]
    exact h5 m (by omega)
  ·have : i = xs.length := by omega
   subst this
   rw [if_neg (by omega)]
   refine ⟨_, rfl, ?_⟩
   rw [h3]
   congr 1
   refine List.ext_getElem? fun m => ?_
   by_cases hm : m < xs.length
   ·rw [h5 m (by omega), nums_get _ _ m hm]
   ·rw [List.getElem?_eq_none (by omega), List.getElem?_eq_none (by rw [nums_len]; omega)]
end Go.Abs

namespace Go.Abs
def inL {α : Type} [DecidableEq α] (l : List α) (x : α) : Bool := l.any fun y => decide (y = x)
theorem inL_app {α : Type} [DecidableEq α] (l m : List α) (x : α) : inL (l ++ m) x = (inL l x || inL m x) := by unfold inL; rw [List.any_append]
theorem inL_one {α : Type} [DecidableEq α] (y x : α) : inL [y] x = decide (y = x) := by simp [inL]
def lookTo (l : List Int) (n : Int) : Nat → Int
 | 0 => -1
 | k + 1 => if l.getD k 0 = n then (k : Int) else lookTo l n k
def look (l : List Int) (n : Int) : Int := lookTo l n l.length
theorem sF (l m : List Int) (n : Int) : ∀ k, k ≤ l.length → lookTo (l ++ m) n k = lookTo l n k
 | 0, _ => rfl
 | k + 1, h => by
  have e : (l ++ m).getD k 0 = l.getD k 0 := by simp [List.getD, List.getElem?_append_left (show k < l.length by omega)]
  have ih := sF l m n k (by omega)
  show (if (l ++ m).getD k 0 = n then (k : Int) else lookTo (l ++ m) n k) = if l.getD k 0 = n then (k : Int) else lookTo l n k
  rw [e, ih]
theorem look_snoc (l : List Int) (m n : Int) : look (l ++ [m]) n = if m = n then (l.length : Int) else look l n := by
 unfold look
 rw [List.length_append]
 show (if (l ++ [m]).getD l.length 0 = n then (l.length : Int) else lookTo (l ++ [m]) n l.length) = _
 have e : (l ++ [m]).getD l.length 0 = m := by simp [List.getD]
 rw [e, sF _ _ _ _ (Nat.le_refl _)]
theorem xD (l : List Int) (n : Int) : ∀ k, k ≤ l.length → if inL (l.take k) n = true then 0 ≤ lookTo l n k ∧ lookTo l n k < k else lookTo l n k = -1
 | 0, _ => by simp [inL, lookTo]
 | k + 1, h => by
  have ih := xD l n k (by omega)
  have hk : k < l.length := by omega
  have e : l.getD k 0 = l[k] := by simp [List.getD, List.getElem?_eq_getElem hk]
  have e2 : lookTo l n (k + 1) = if l[k] = n then (k : Int) else lookTo l n k := by
   show (if l.getD k 0 = n then (k : Int) else lookTo l n k) = _
   rw [e]
  rw [← List.take_append_getElem hk, inL_app, inL_one, e2]
  by_cases hx : l[k] = n
  ·rw [if_pos hx, decide_eq_true hx, Bool.or_true, if_pos rfl]; omega
  ·rw [if_neg hx, decide_eq_false hx, Bool.or_false]
   cases hb : inL (l.take k) n
   ·rw [hb] at ih; simpa using ih
   ·rw [hb, if_pos rfl] at ih; rw [if_pos rfl]; omega
theorem look_in (l : List Int) (n : Int) : if inL l n = true then 0 ≤ look l n ∧ look l n < l.length else look l n = -1 := by
 have := xD l n l.length (Nat.le_refl _)
 rwa [List.take_length] at this
theorem look_neg (l : List Int) (n : Int) : decide (look l n < 0) = !inL l n := by
 have := look_in l n
 cases h : inL l n
 ·rw [h, if_neg (by simp)] at this; rw [this]; rfl
 ·rw [h, if_pos rfl] at this; simp; omega
theorem look_le (l : List Int) (n : Int) : -1 ≤ look l n ∧ look l n < (l.length : Int) + 1 := by
 have := look_in l n
 split at this <;> omega
theorem sG {α β : Type} [DecidableEq α] (m : List (α × β)) (k : α) (v : β) (j : α) : mlook (mput m k v) j = if j = k then some v else mlook m j := by
 induction m with
 | nil =>
  unfold mput mlook
  by_cases h : j = k
  ·simp [h]
  ·simp [h, mlook]
 | cons p r ih =>
  unfold mput
  by_cases h : k = p.1
  ·rw [if_pos h]
   unfold mlook
   by_cases h2 : j = k
   ·rw [if_pos h2, if_pos h2]
   ·rw [if_neg h2, if_neg h2, if_neg (fun e => h2 (e.trans h.symm))]
  ·rw [if_neg h]
   unfold mlook
   by_cases h2 : j = p.1
   ·rw [if_pos h2, if_pos h2, if_neg (fun e => h (e.symm.trans h2))]
   ·rw [if_neg h2, if_neg h2, ih]
theorem mput_len {α β : Type} [DecidableEq α] (m : List (α × β)) (k : α) (v : β) (h : mlook m k = none) : (mput m k v).length = m.length + 1 := by
 induction m with
 | nil => rfl
 | cons p r ih =>
  unfold mlook at h
  by_cases hk : k = p.1
  ·rw [if_pos hk] at h; cases h
  ·rw [if_neg hk] at h
   unfold mput
   rw [if_neg hk, List.length_cons, ih h, List.length_cons]
def Slot (g : List Int) (m : List (Int × Int)) : Prop := m.length = g.length ∧ ∀ x, mlook m x = if inL g x = true then some (look g x) else none
theorem slot_nil : Slot [] [] := ⟨rfl, fun x => rfl⟩
theorem slot_put {g : List Int} {m : List (Int × Int)} {n : Int} (h : Slot g m) (hn : inL g n = false) : Slot (g ++ [n]) (mput m n (m.length : Int)) := by
 have h2 := h.2 n
 rw [hn, if_neg (by simp)] at h2
 refine ⟨by rw [mput_len m n _ h2, h.1, List.length_append]; rfl, fun x => ?_⟩
 rw [sG, inL_app, inL_one, look_snoc, h.1]
 have h3 := h.2 x
 by_cases e : x = n
 ·rw [if_pos e, decide_eq_true e.symm, Bool.or_true, if_pos rfl, if_pos e.symm]
 ·have e' : ¬ n = x := fun q => e q.symm
  rw [if_neg e, decide_eq_false e', Bool.or_false, if_neg e']
  exact h3
def KnowT (ns : List (List UInt8)) (m : List (List UInt8 × Int)) : Prop := ∀ t, decide (mget m t = 1) = inL ns t
theorem knowT_nil : KnowT [] [] := fun t => by simp [mget, mlook, inL]
theorem knowT_put {ns : List (List UInt8)} {m : List (List UInt8 × Int)} (h : KnowT ns m) (x : List UInt8) : KnowT (ns ++ [x]) (mput m x 1) := fun t => by
 have ht := h t
 unfold mget at ht ⊢
 rw [sG, inL_app, inL_one]
 by_cases e : t = x
 ·rw [if_pos e, decide_eq_true e.symm, Bool.or_true]; rfl
 ·have e' : ¬ x = t := fun q => e q.symm
  rw [if_neg e, decide_eq_false e', Bool.or_false, ht]
def news : List Int → List Int → Bool
 | _, [] => true
 | g, n :: r => !inL g n && news (g ++ [n]) r
def okA : List Int → List (List UInt8) → List PObj → Bool
 | _, _, [] => true
 | g, ns, o :: r => isObj o && (!inL ns o.name && (news g o.defines && okA (g ++ o.defines) (ns ++ [o.name]) r))
def defsIn (g : List Int) (o : PObj) : Bool := (o.defines ++ o.uses).all fun n => inL (g ++ o.defines) n
def okU : List Int → List PObj → Bool
 | _, [] => true
 | g, o :: r => defsIn g o && okU (g ++ o.defines) r
def okAB : List Int → List (List UInt8) → List PObj → Bool
 | _, _, [] => true
 | g, ns, o :: r => isObj o && (!inL ns o.name && (news g o.defines && (defsIn g o && okAB (g ++ o.defines) (ns ++ [o.name]) r)))
theorem okAB_eq : ∀ (l : List PObj) (g : List Int) (ns : List (List UInt8)), okAB g ns l = (okA g ns l && okU g l)
 | [], _, _ => rfl
 | o :: r, g, ns => by
  unfold okAB okA okU
  rw [okAB_eq r]
  cases isObj o <;> cases inL ns o.name <;> cases news g o.defines <;> cases defsIn g o <;> simp
def gAll (list : List PObj) : List Int := list.flatMap fun o => o.defines
theorem gAll_cons (o : PObj) (r : List PObj) : gAll (o :: r) = o.defines ++ gAll r := by unfold gAll; rw [List.flatMap_cons]
def namesB (op : Int) : Bool := decide (op = 11) || (decide (op = 18) || (decide (op = 19) || decide (op = 20)))
def shiftI (n : Int) (x : PInstr) : PInstr := PInstr.mk x.op (if namesB x.op = true then x.a + n else x.a) x.d
def shiftC (n : Int) (c : PCode) : PCode := PCode.mk c.params c.slots c.captures (c.instrs.map (shiftI n))
def grow (cs : List PCode) (o : PObj) : List PCode := cs ++ o.image.codes.map (shiftC (cs.length : Int))
def insO (op a : Int) : PInstr := PInstr.mk op a (PD.mk 0 0 ([] : List UInt8) [])
def block (g : List Int) (cs : List PCode) (o : PObj) : List PInstr := (o.defines ++ o.uses).map (fun n => insO 3 (look (g ++ o.defines) n)) ++ [insO 20 (((grow cs o).length : Int) - 1)]
def joined : List Int → List PCode → List PObj → List PInstr
 | _, _, [] => []
 | g, cs, o :: r => block g cs o ++ ((if r.length = 0 then [] else [insO 17 0]) ++ joined (g ++ o.defines) (grow cs o) r)
def joinedI : Bool → List Int → List PCode → List PObj → List PInstr
 | _, _, _, [] => []
 | b, g, cs, o :: r => (if b = true then [insO 17 0] else []) ++ (block g cs o ++ joinedI true (g ++ o.defines) (grow cs o) r)
theorem sD : ∀ (l : List PObj) (b : Bool) (g : List Int) (cs : List PCode), joinedI b g cs l = (if (b && !decide (l.length = 0)) = true then [insO 17 0] else []) ++ joined g cs l
 | [], b, _, _ => by cases b <;> rfl
 | o :: r, b, g, cs => by
  unfold joinedI joined
  rw [sD r]
  cases b <;> by_cases h : r.length = 0 <;> simp [h]
def boxes (n : Nat) : List PInstr := (List.range n).map fun (i : Nat) => insO 9 (i : Int)
theorem rV (n : Nat) : boxes (n + 1) = boxes n ++ [insO 9 (n : Int)] := by unfold boxes; rw [List.range_succ, List.map_append]; rfl
theorem bV (n : Nat) : (boxes n).length = n := by simp [boxes]
def codesAll (cs : List PCode) (list : List PObj) : List PCode := list.foldl grow cs
def finM (n : Nat) (main : List PInstr) (codes : List PCode) : PImage := PImage.mk (codes ++ [PCode.mk 0 (n : Int) 0 (main ++ [insO 14 0])]) (codes.length : Int)
def noR : PImage × Bool := (PImage.mk [] 0, false)
def finR (n : Nat) (main : List PInstr) (codes : List PCode) : PImage × Bool := if isImg (finM n main codes) 0 = true then (finM n main codes, true) else noR
def linkF (list : List PObj) : PImage × Bool := finR (gAll list).length (boxes (gAll list).length ++ joined [] [] list) (codesAll [] list)
def linkR (list : List PObj) : PImage × Bool := if inside (list.length : Int) 1 12 = true then (if (okA [] [] list && okU [] list) = true then linkF list else noR) else noR
theorem iB {o : PObj} (h : isObj o = true) : o.defines.length + o.uses.length ≤ 500 ∧ o.image.codes.length ≤ 1500 := by
 unfold isObj isImg inside at h
 simp only [Bool.and_eq_true, decide_eq_true_eq] at h
 obtain ⟨_, _, h1, h2, h3, h4, h5, _⟩ := h
 have hlt : o.image.codes.length - 1 < o.image.codes.length := by omega
 unfold codesOK at h5
 have h6 := List.all_eq_true.1 h5 (o.image.codes.length - 1) (List.mem_range.2 hlt)
 rw [Bool.and_eq_true] at h6
 have h7 := h6.1
 unfold codeOKs at h7
 rw [Bool.and_eq_true] at h7
 have h8 := h7.1
 unfold headOK inside at h8
 simp only [Bool.and_eq_true, decide_eq_true_eq] at h8
 omega
theorem okA_obj : ∀ {l : List PObj} {g : List Int} {ns : List (List UInt8)}, okA g ns l = true → ∀ o ∈ l, isObj o = true
 | [], _, _, _, _, h => by cases h
 | o :: r, g, ns, h, x, hx => by
  unfold okA at h
  simp only [Bool.and_eq_true] at h
  rcases List.mem_cons.1 hx with rfl | hx
  ·exact h.1
  ·exact okA_obj h.2.2.2 x hx
def few (l : List PObj) : Prop := ∀ o ∈ l, o.defines.length + o.uses.length ≤ 500 ∧ o.image.codes.length ≤ 1500
theorem dC : ∀ {l : List PObj}, few l → (gAll l).length ≤ 500 * l.length
 | [], _ => by simp [gAll]
 | o :: r, h => by
  have h1 := h o (by simp)
  have h2 := dC (l := r) fun x hx => h x (by simp [hx])
  rw [gAll_cons, List.length_append, List.length_cons]; omega
theorem iZ (cs : List PCode) (o : PObj) : (grow cs o).length = cs.length + o.image.codes.length := by unfold grow; simp
theorem lR : ∀ {l : List PObj} (cs : List PCode), few l → (codesAll cs l).length ≤ cs.length + 1500 * l.length
 | [], cs, _ => by simp [codesAll]
 | o :: r, cs, h => by
  have h1 := h o (by simp)
  have h2 := lR (l := r) (grow cs o) fun x hx => h x (by simp [hx])
  have h3 := iZ cs o
  show (codesAll (grow cs o) r).length ≤ _
  rw [List.length_cons]; omega
theorem nU (g : List Int) (cs : List PCode) (o : PObj) : (block g cs o).length = o.defines.length + o.uses.length + 1 := by unfold block; simp; omega
theorem sE : ∀ {l : List PObj} (g : List Int) (cs : List PCode), few l → (joined g cs l).length ≤ 502 * l.length
 | [], _, _, _ => by simp [joined]
 | o :: r, g, cs, h => by
  have h1 := h o (by simp)
  have h2 := sE (l := r) (g ++ o.defines) (grow cs o) fun x hx => h x (by simp [hx])
  have h3 := nU g cs o
  unfold joined
  rw [List.length_append, List.length_append, List.length_cons, h3]
  have h4 : (if r.length = 0 then [] else [insO 17 0]).length ≤ 1 := by split <;> simp
  omega
theorem sR {α : Type} (wt : α → Nat) (xs ys : List α) : wts wt (xs ++ ys) = wts wt xs + wts wt ys := by unfold wts; simp; omega
theorem wts_map {α : Type} (wt : α → Nat) (f : α → α) (h : ∀ x, wt (f x) = wt x) (xs : List α) : wts wt (xs.map f) = wts wt xs := by
 unfold wts
 rw [List.length_map, List.map_map]
 have e : wt ∘ f = wt := funext h
 rw [e]
theorem wC_shift (n : Int) (c : PCode) : wC (shiftC n c) = wC c := by
 unfold wC shiftC
 exact wts_map wI (shiftI n) (fun x => rfl) c.instrs
theorem rX : ∀ (l : List PObj) (cs : List PCode), wts wC (codesAll cs l) ≤ wts wC cs + wts wO l
 | [], cs => by show wts wC cs ≤ _; omega
 | o :: r, cs => by
  have h := rX r (grow cs o)
  have h1 : wts wC (grow cs o) = wts wC cs + wM o.image := by unfold grow; rw [sR, wts_map wC _ (wC_shift _)]; rfl
  have h2 : wts wO (o :: r) = 1 + wO o + wts wO r := by unfold wts; simp; omega
  have h3 : wM o.image ≤ wO o := by unfold wO; omega
  show wts wC (codesAll (grow cs o) r) ≤ _
  omega
def bareI (x : PInstr) : Prop := x.d = PD.mk 0 0 ([] : List UInt8) []
theorem bare_w : ∀ {xs : List PInstr}, (∀ x ∈ xs, bareI x) → wts wI xs = xs.length
 | [], _ => rfl
 | x :: r, h => by
  have h1 := bare_w (xs := r) fun y hy => h y (by simp [hy])
  have h2 : wI x = 0 := by unfold wI; rw [h x (by simp)]; rfl
  have h3 : wts wI (x :: r) = 1 + wI x + wts wI r := by unfold wts; simp; omega
  rw [h3, h2, h1, List.length_cons]; omega
theorem kS (g : List Int) (cs : List PCode) (o : PObj) : ∀ x ∈ block g cs o, bareI x := by
 intro x hx
 unfold block at hx
 rcases List.mem_append.1 hx with h | h
 ·obtain ⟨n, _, rfl⟩ := List.mem_map.1 h; rfl
 ·rw [List.mem_singleton] at h; subst h; rfl
theorem oW : ∀ (l : List PObj) (g : List Int) (cs : List PCode), ∀ x ∈ joined g cs l, bareI x
 | [], _, _, x, h => by cases h
 | o :: r, g, cs, x, h => by
  unfold joined at h
  rcases List.mem_append.1 h with h | h
  ·exact kS g cs o x h
  ·rcases List.mem_append.1 h with h | h
   ·split at h
    ·cases h
    ·rw [List.mem_singleton] at h; subst h; rfl
   ·exact oW r _ _ x h
theorem kT (n : Nat) : ∀ x ∈ boxes n, bareI x := by
 intro x hx
 unfold boxes at hx
 obtain ⟨n, _, rfl⟩ := List.mem_map.1 hx; rfl
theorem aJ {xs ys : List PInstr} (h1 : ∀ x ∈ xs, bareI x) (h2 : ∀ x ∈ ys, bareI x) : ∀ x ∈ xs ++ ys, bareI x := fun x hx => by
 rcases List.mem_append.1 hx with h | h
 ·exact h1 x h
 ·exact h2 x h
theorem nG (op a : Int) : ∀ x ∈ [insO op a], bareI x := fun x hx => by rw [List.mem_singleton] at hx; subst hx; rfl
theorem finM_w {n : Nat} {main : List PInstr} {codes : List PCode} (hb : ∀ x ∈ main, bareI x) : wM (finM n main codes) = wts wC codes + main.length + 2 := by
 have h3 : wts wI (main ++ [insO 14 0]) = (main ++ [insO 14 0]).length := bare_w (aJ hb (nG 14 0))
 have h4 : wts wC [PCode.mk 0 (n : Int) 0 (main ++ [insO 14 0])] = 1 + wts wI (main ++ [insO 14 0]) := by unfold wts wC; simp [wts]
 show wts wC (codes ++ [PCode.mk 0 (n : Int) 0 (main ++ [insO 14 0])]) = _
 rw [sR, h4, h3, List.length_append]
 simp only [List.length_cons, List.length_nil]; omega
theorem yI {n : Int} {c : PCode} (h : c.small) : (shiftC n c).small := by
 refine ⟨by show (c.instrs.map _).length ≤ _; rw [List.length_map]; exact h.1, fun x hx => ?_⟩
 obtain ⟨y, hy, rfl⟩ := List.mem_map.1 hx
 exact h.2 y hy
theorem kY {cs : List PCode} {o : PObj} (ho : o.small) (h : ∀ c ∈ cs, c.small) : ∀ c ∈ grow cs o, c.small := fun c hc => by
 unfold grow at hc
 rcases List.mem_append.1 hc with hc | hc
 ·exact h c hc
 ·obtain ⟨y, hy, rfl⟩ := List.mem_map.1 hc
  exact yI (ho.2.2.2.2 y hy)
theorem gM : ∀ {l : List PObj} {cs : List PCode}, (∀ o ∈ l, o.small) → (∀ c ∈ cs, c.small) → ∀ c ∈ codesAll cs l, c.small
 | [], _, _, h, c, hc => h c hc
 | o :: r, cs, hl, h, c, hc => gM (l := r) (cs := grow cs o) (fun x hx => hl x (by simp [hx])) (kY (hl o (by simp)) h) c hc
theorem bare_small {x : PInstr} (h : bareI x) : x.d.small := by rw [show x.d = _ from h]; exact small_wD (by show 0 ≤ _; omega)
theorem kX {n : Nat} {main : List PInstr} {codes : List PCode} (hb : ∀ x ∈ main, bareI x) (hm : main.length ≤ 100000) (hs : ∀ c ∈ codes, c.small) (hc : codes.length ≤ 100000) : (finM n main codes).small := by
 refine ⟨by show (codes ++ [_]).length ≤ _; rw [List.length_append]; simp only [List.length_nil, List.length_cons]; omega, fun c hc => ?_⟩
 rcases List.mem_append.1 hc with hc | hc
 ·exact hs c hc
 ·rw [List.mem_singleton] at hc
  subst hc
  exact ⟨by show (main ++ [_]).length ≤ _; rw [List.length_append]; simp only [List.length_nil, List.length_cons]; omega, fun x hx => bare_small (aJ hb (nG 14 0) x hx)⟩
theorem linkR_good {l : List PObj} (hs : ∀ o ∈ l, o.small) (hw : wts wO l ≤ 1048576) : (linkR l).1.small ∧ wM (linkR l).1 ≤ 1100000 := by
 have h0 : noR.1.small ∧ wM noR.1 ≤ 1100000 := ⟨⟨by show 0 ≤ _; omega, fun c hc => by cases hc⟩, by show 0 ≤ _; omega⟩
 unfold linkR
 split
 ·rename_i hi
  split
  ·rename_i hk
   unfold linkF finR
   split
   ·rw [Bool.and_eq_true] at hk
    unfold inside at hi
    simp only [Bool.and_eq_true, decide_eq_true_eq] at hi
    have hf : few l := fun o ho => iB (okA_obj hk.1 o ho)
    have hb := aJ (kT (gAll l).length) (oW l [] [])
    have h1 := rX l []
    have h2 := dC hf
    have h3 := sE [] [] hf
    have h4 := lR [] hf
    have h5 : (boxes (gAll l).length ++ joined [] [] l).length ≤ 13000 := by rw [List.length_append, bV]; omega
    have h6 : wts wC ([] : List PCode) = 0 := rfl
    refine ⟨kX hb (by omega) (gM hs fun c hc => by cases hc) (by simp only [List.length_nil] at h4; omega), ?_⟩
    show wM (finM _ _ _) ≤ _
    rw [finM_w hb]; omega
   ·exact h0
  ·exact h0
 ·exact h0
end Go.Abs

namespace Go.Abs
open PD
theorem nF {α β R : Type} {L : (Int × List β → Option R) → Int × List β → Option R} (f : α → β) (F : List β → Option R) (xs : List α) (hn : xs.length ≤ 1048576)
 (step : ∀ go (i : Nat) o (hi : i < xs.length), o.length = i → L go ((i : Int), o) = go ((i : Int) + 1, o ++ [f xs[i]])) (fin : ∀ go o, L go ((xs.length : Int), o) = F o) :
 itr L LF (0, []) = F (xs.map f) := by
 rw [u9 (L := L) xs.length (fun i o => o.length = i) (fun i o => F (o ++ (xs.drop i).map f)) (by omega) (fun go i o hi ho hgo => ?_) (fun go o ho => ?_) (by simp)]
 ·simp
 ·rw [step go i o hi ho, hgo _ (by simp [ho]), List.drop_eq_getElem_cons hi, List.map_cons, List.append_assoc]; rfl
 ·rw [fin]; simp
theorem tP (l : List Int) (h : l.length ≤ 1048576) : cB l = some l := by unfold cB; rw [j2 (by omega)]
theorem pV : ∀ (n : Nat) (d : PD), d.cnt < n → d.small → v4 n d = some d
 | 0, d, h, _ => by omega
 | n + 1, d, h, hd => by
  show cN (v4 n) d = _
  unfold cN
  have hs := V5 hd
  rw [nF (L := iK (v4 n) d) id (fun o => some (PD.mk d.kind d.number d.text o)) d.items hs (fun go i o hi ho => ?_) (fun go o => ?_)]
  ·rw [List.map_id]; cases d; rfl
  ·show J9 (v4 n) d go i o = _
   unfold J9
   rw [if_pos (by omega), n6 hi, f8, pV n _ (by have := (A1 hd hi).2; omega) (A1 hd hi).1, f8, j2 (by simp; omega), j2 (by omega)]; rfl
  ·show J9 (v4 n) d go _ o = _
   unfold J9
   rw [if_neg (by omega)]
theorem gO : ∀ (n : Nat), (∀ d : PD, 2 * d.cnt + 1 < n → d.small → l7 n d = some d) ∧ (∀ ds : List PD, 2 * PD.cnts ds < n → ds.length ≤ 1048576 → (∀ x ∈ ds, x.small) → s6 n ds = some ds)
 | 0 => ⟨fun d h => by omega, fun ds h => by omega⟩
 | n + 1 => by
  have ih := gO n
  refine ⟨fun d h hs => ?_, fun ds h hl hw => ?_⟩
  ·show Q0 (l7 n) (s6 n) d = _
   unfold Q0
   have hc := PD.cnt_eq d
   rw [ih.2 d.items (by omega) (V5 hs) (fun x hx => PD.small_item hs hx), f8]
   cases d; rfl
  ·show U4 (l7 n) (s6 n) ds = _
   unfold U4
   rw [nF (L := dG (l7 n) ds) id some ds hl (fun go i o hi ho => ?_) (fun go o => ?_)]
   ·rw [List.map_id]
   ·show D7 (l7 n) ds go i o = _
    unfold D7
    rw [if_pos (by omega), n6 hi, f8, ih.1 _ (by have := PD.cnts_mem (List.getElem_mem hi); omega) (hw _ (List.getElem_mem hi)), f8, j2 (by simp; omega), j2 (by omega)]; rfl
   ·show D7 (l7 n) ds go _ o = _
    unfold D7
    rw [if_neg (by omega)]
theorem xI (op : Int) : (if op = 11 then some true else if op = 18 then some true else if op = 19 then some true else some (decide (op = 20))) = some (namesB op) := by
 unfold namesB
 by_cases h1 : op = 11
 ·simp [h1]
 ·by_cases h2 : op = 18
  ·simp [h1, h2]
  ·by_cases h3 : op = 19 <;> simp [h1, h2, h3]
theorem qU (op : Int) : N8 op = some (namesB op) := xI op
theorem rG (op : Int) : O1 op = some (namesB op) := xI op
def movable (m : PImage) : Prop := ∀ c ∈ m.codes, c.small ∧ ∀ x ∈ c.instrs, 0 ≤ x.a ∧ x.a ≤ 4000
theorem pE {o : PObj} (h : isObj o = true) (hs : o.small) : movable o.image := by
 intro c hc
 refine ⟨hs.2.2.2.2 c hc, fun x hx => ?_⟩
 unfold isObj isImg at h
 simp only [Bool.and_eq_true] at h
 have h5 := h.2.2.2.2.2.2.1
 obtain ⟨k, hk1, hk2⟩ := List.getElem_of_mem hc
 unfold codesOK at h5
 have h6 := List.all_eq_true.1 h5 k (List.mem_range.2 hk1)
 rw [Bool.and_eq_true] at h6
 have h7 := h6.1
 unfold codeOKs at h7
 rw [Bool.and_eq_true] at h7
 have e : o.image.codes.getD k default = c := by simp [List.getD, List.getElem?_eq_getElem hk1, hk2]
 rw [e] at h7
 have h8 := List.all_eq_true.1 h7.2 x hx
 rw [Bool.and_eq_true] at h8
 have h9 := eP h8.1
 exact ⟨h9.1, h9.2.1⟩
theorem uP (m : PImage) (k : Nat) (hk : k ≤ 100000) (hm : movable m) (hl : m.codes.length ≤ 100000) : cM m (k : Int) = some (m.codes.map (shiftC (k : Int))) := by
 unfold cM
 rw [nF (L := dQ m (k : Int)) (shiftC (k : Int)) some m.codes (by omega) (fun go i o hi ho => ?_) (fun go o => ?_)]
 ·show E6 m (k : Int) go i o = _
  unfold E6
  obtain ⟨hs, ha⟩ := hm _ (List.getElem_mem hi)
  rw [if_pos (by omega), n6 hi, f8]
  rw [nF (L := dR (k : Int) (i : Int) o go m.codes[i]) (shiftI (k : Int)) (fun x8 => chk ((o.length + ([(PCode.mk m.codes[i].params m.codes[i].slots m.codes[i].captures x8)] : List PCode).length) * 48 ≤ 140737488355328) <| chk (I64 ((i : Int) + 1)) <| go (((i : Int) + 1), (o ++ ([(PCode.mk m.codes[i].params m.codes[i].slots m.codes[i].captures x8)] : List PCode)))) m.codes[i].instrs hs.1 (fun go' j a hj hja => ?_) (fun go' a => ?_)]
  ·rw [j2 (by simp; omega), j2 (by omega)]; rfl
  ·show E7 (k : Int) (i : Int) o go m.codes[i] go' j a = _
   have hsm := hs.2 _ (List.getElem_mem hj)
   have hxa := ha _ (List.getElem_mem hj)
   have hlen := hs.1
   unfold E7
   rw [if_pos (by omega), n6 hj, f8, pV RF _ (RF_cnt hsm) hsm, f8, rG, f8]
   unfold K9 shiftI
   cases namesB (m.codes[i].instrs[j]).op
   ·rw [if_neg (by simp), if_neg (by simp), j2 (by simp; omega), j2 (by omega)]
   ·rw [if_pos rfl, if_pos rfl, j2 (by omega), j2 (by simp; omega), j2 (by omega)]
  ·show E7 (k : Int) (i : Int) o go m.codes[i] go' _ a = _
   unfold E7
   rw [if_neg (by omega)]
 ·show E6 m (k : Int) go _ o = _
  unfold E6
  rw [if_neg (by omega)]
theorem set_map {α : Type} {xs : List α} {f : α → α} {i : Nat} (h : i < xs.length) : ((xs.take i).map f ++ xs.drop i).set i (f xs[i]) = (xs.take (i + 1)).map f ++ xs.drop (i + 1) := by
 rw [List.set_append_right _ _ (by simp; omega)]
 have e2 : i - ((xs.take i).map f).length = 0 := by simp; omega
 rw [e2, List.drop_eq_getElem_cons h, List.set_cons_zero, List.take_add_one, List.map_append, List.append_assoc]
 simp [List.getElem?_eq_getElem h]
theorem nth_mid {α : Type} {xs : List α} {f : α → α} {i : Nat} (h : i < xs.length) : nth ((xs.take i).map f ++ xs.drop i) (i : Int) = some xs[i] := by
 rw [nth_nat, List.getElem?_append_right (by simp; omega)]
 have e : i - ((xs.take i).map f).length = 0 := by simp; omega
 rw [e, List.drop_eq_getElem_cons h]; rfl
theorem nth_put {α : Type} {l : List α} {i : Nat} {v : α} (h : i < l.length) : nth (l.set i v) (i : Int) = some v := by
 rw [n6 (by simpa using h)]; simp
theorem i_inner_eq (x6 : List PCode) (i : Nat) (x19 : List PCode) (go20 : (Int × List PCode) → Option (PImage × Bool)) (c : PCode) (hs : c.small) (ha : ∀ x ∈ c.instrs, 0 ≤ x.a ∧ x.a ≤ 4000) (h6 : x6.length ≤ 100000) (h19 : x19.length ≤ 1000000) (hi : i ≤ 100000) :
 itr (M7 x6 (i : Int) x19 go20 c) LF (0, c.instrs) = go20 ((i : Int) + 1, x19 ++ [shiftC (x6.length : Int) c]) := by
 have hlen := hs.1
 rw [u9 (L := M7 x6 (i : Int) x19 go20 c) c.instrs.length (fun j a => a = (c.instrs.take j).map (shiftI (x6.length : Int)) ++ c.instrs.drop j) (fun _ _ => go20 ((i : Int) + 1, x19 ++ [shiftC (x6.length : Int) c])) (by omega) (fun go j a hj hI hgo => ?_) (fun go a hI => ?_) (by simp)]
 ·show w8 x6 (i : Int) x19 go20 c go j a = _
  unfold w8
  have hsm := hs.2 _ (List.getElem_mem hj)
  have hxa := ha _ (List.getElem_mem hj)
  have hal : a.length = c.instrs.length := by rw [hI]; simp; omega
  have hn : nth a (j : Int) = some c.instrs[j] := by rw [hI]; exact nth_mid hj
  have hja : j < a.length := by omega
  have hst := set_map (f := shiftI (x6.length : Int)) hj
  rw [← hI] at hst
  rw [if_pos (by omega), hn, f8, (gO RF).1 _ (lK hsm) hsm, f8, f8, Int.toNat_natCast, nth_put hja, f8, qU, f8]
  unfold C9
  cases hb : namesB (c.instrs[j]).op
  ·rw [if_neg (by simp), j2 (by omega)]
   have e : PInstr.mk c.instrs[j].op c.instrs[j].a c.instrs[j].d = shiftI (x6.length : Int) c.instrs[j] := by unfold shiftI; rw [hb]; rfl
   rw [e]
   exact hgo _ hst
  ·rw [if_pos rfl, f8, j2 (by show _ ∧ _; dsimp only; omega), f8, j2 (by omega), List.set_set]
   have e : PInstr.mk c.instrs[j].op (c.instrs[j].a + (x6.length : Int)) c.instrs[j].d = shiftI (x6.length : Int) c.instrs[j] := by unfold shiftI; rw [hb]; rfl
   refine Eq.trans ?_ (hgo _ hst)
   rw [← e]
 ·show w8 x6 (i : Int) x19 go20 c go _ a = _
  unfold w8
  have hal : a.length = c.instrs.length := by rw [hI]; simp
  rw [if_neg (by omega), j2 (by omega), j2 (by simp; omega), j2 (by omega)]
  rw [hI, List.take_length, List.drop_length, List.append_nil]; rfl
theorem i_codes_eq (x2 : Nat) (names : List (List UInt8 × Int)) (cs : List PCode) (go7 : (Int × (List ((List UInt8) × Int)) × (List (Int × Int)) × List PInstr × List PCode) → Option (PImage × Bool)) (o : PObj) (slots : List (Int × Int)) (x16 : List PInstr) (hm : movable o.image) (hl : o.image.codes.length ≤ 1500) (h6 : cs.length ≤ 100000) (h16 : x16.length ≤ 100000) (h2 : x2 ≤ 100) :
 itr (M6 (x2 : Int) names cs go7 o slots x16) LF (0, cs) = go7 ((x2 : Int) + 1, mput names o.name 1, slots, x16 ++ [insO 20 (((grow cs o).length : Int) - 1)], grow cs o) := by
 rw [u9 (L := M6 (x2 : Int) names cs go7 o slots x16) o.image.codes.length (fun j a => a = cs ++ (o.image.codes.take j).map (shiftC (cs.length : Int))) (fun _ _ => go7 ((x2 : Int) + 1, mput names o.name 1, slots, x16 ++ [insO 20 (((grow cs o).length : Int) - 1)], grow cs o)) (by omega) (fun go j a hj hI hgo => ?_) (fun go a hI => ?_) (by simp)]
 ·show w7 (x2 : Int) names cs go7 o slots x16 go j a = _
  unfold w7
  obtain ⟨hs, ha⟩ := hm _ (List.getElem_mem hj)
  have hlen := hs.1
  have hal : a.length = cs.length + j := by rw [hI]; simp; omega
  rw [if_pos (by omega), n6 hj, f8, j2 (by omega), i_inner_eq cs j a go _ hs ha h6 (by omega) (by omega)]
  refine hgo _ ?_
  rw [hI, List.take_add_one, List.getElem?_eq_getElem hj, List.map_append, List.append_assoc]; rfl
 ·show w7 (x2 : Int) names cs go7 o slots x16 go _ a = _
  unfold w7
  have e : a = grow cs o := by rw [hI, List.take_length]; rfl
  have hg := iZ cs o
  rw [e, if_neg (by omega), j2 (by omega), j2 (by simp; omega), j2 (by omega)]; rfl
theorem s_l5Look_eq (l : List Int) (n : Int) (h : l.length ≤ 4611686018427387904) : kE l n = some (look l n) := by
 unfold kE
 rw [j2 (by omega)]
 refine (jI (L := iN l n) (fun v => some (lookTo l n (v + 1).toNat)) (fun v => -1 ≤ v ∧ v < l.length) (fun v => (v + 1).toNat) (fun go v hv hgo => ?_) _ ⟨by omega, by omega⟩ (by omega)).trans ?_
 ·show V3 l n go v = _
  unfold V3
  by_cases hp : v ≥ 0
  ·obtain ⟨k, rfl⟩ := Int.eq_ofNat_of_zero_le hp
   have hk : k < l.length := by have := hv.2; omega
   have e : ((k : Int) + 1).toNat = k + 1 := by omega
   have e2 : lookTo l n (k + 1) = if l[k] = n then (k : Int) else lookTo l n k := by
    show (if l.getD k 0 = n then (k : Int) else lookTo l n k) = _
    simp [List.getD, List.getElem?_eq_getElem hk]
   rw [if_pos (by omega), n6 hk, f8, e, e2]
   by_cases hx : l[k] = n
   ·rw [if_pos hx, if_pos hx]
   ·rw [if_neg hx, if_neg hx, j2 (by omega), hgo _ ⟨by omega, by omega⟩ (by omega)]
    have e3 : ((k : Int) - 1 + 1).toNat = k := by omega
    rw [e3]
  ·have e : (v + 1).toNat = 0 := by omega
   rw [if_neg hp, e]; rfl
 ·have e : ((l.length : Int) - 1 + 1).toNat = l.length := by omega
  rw [e]; rfl
theorem s_l1Has_eq (l : List (List UInt8)) (s : List UInt8) (h : l.length ≤ 4611686018427387904) : pX l s = some (inL l s) := by
 unfold pX
 rw [bD (L := lO l s) l.length (fun i => some (inL (l.drop i) s)) (by omega) (fun go i hi hgo => ?_) (fun go => ?_)]
 ·rfl
 ·show O3 l s go (i : Int) = _
  unfold O3 inL
  rw [if_pos (by omega), n6 hi, f8, j2 (by omega), hgo, List.drop_eq_getElem_cons hi, List.any_cons]
  by_cases e : l[i] = s
  ·rw [if_pos e, decide_eq_true e]; simp
  ·rw [if_neg e, decide_eq_false e]; simp [inL]
 ·show O3 l s go (l.length : Int) = _
  unfold O3
  rw [if_neg (by omega), List.drop_length]; rfl
def namesOf (l : List PObj) : List (List UInt8) := l.map fun o => o.name
theorem aU {α : Type} {l : List α} {i : Nat} (h : i < l.length) : l.take (i + 1) = l.take i ++ [l[i]] := (List.take_append_getElem h).symm
theorem eJ {l : List PObj} {i : Nat} (h : i < l.length) : gAll (l.take (i + 1)) = gAll (l.take i) ++ l[i].defines := by
 rw [aU h]; unfold gAll; rw [List.flatMap_append]; simp
theorem eU {l : List PObj} {i : Nat} (h : i < l.length) : namesOf (l.take (i + 1)) = namesOf (l.take i) ++ [l[i].name] := by
 rw [aU h]; unfold namesOf; rw [List.map_append]; rfl
theorem few_take {l : List PObj} {i : Nat} (h : i < l.length) (hf : few (l.take i)) (ho : isObj l[i] = true) : few (l.take (i + 1)) := by
 rw [aU h]
 intro o hm
 rcases List.mem_append.1 hm with hm | hm
 ·exact hf o hm
 ·rw [List.mem_singleton] at hm; subst hm; exact iB ho
def locsOf (G : List Int) (l : List Int) : List PInstr := l.map fun n => insO 3 (look G n)
theorem block_eq (g : List Int) (cs : List PCode) (o : PObj) : block g cs o = locsOf (g ++ o.defines) (o.defines ++ o.uses) ++ [insO 20 (((grow cs o).length : Int) - 1)] := rfl
theorem wX (x2 : Nat) (names : List (List UInt8 × Int)) (cs : List PCode) (go7 : (Int × (List ((List UInt8) × Int)) × (List (Int × Int)) × List PInstr × List PCode) → Option (PImage × Bool)) (o : PObj) (G : List Int) (slots : List (Int × Int)) (hS : Slot G slots) (x13 : List PInstr) (hm : movable o.image) (hl : o.image.codes.length ≤ 1500) (hd : o.defines.length + o.uses.length ≤ 500) (h6 : cs.length ≤ 100000) (h13 : x13.length ≤ 50000) (h2 : x2 ≤ 100) :
 A2 (x2 : Int) names cs go7 o slots x13 = if ((o.defines ++ o.uses).all fun n => inL G n) = true then go7 ((x2 : Int) + 1, mput names o.name 1, slots, (x13 ++ locsOf G (o.defines ++ o.uses)) ++ [insO 20 (((grow cs o).length : Int) - 1)], grow cs o) else some noR := by
 unfold A2
 rw [tP _ (by omega), f8, j2 (by omega)]
 have hvl : (o.defines ++ o.uses).length ≤ 500 := by rw [List.length_append]; omega
 rw [u9 (L := W3 (x2 : Int) names cs go7 o slots o.defines) (o.defines ++ o.uses).length (fun j a => a.length = x13.length + j) (fun j a => if (((o.defines ++ o.uses).drop j).all fun n => inL G n) = true then go7 ((x2 : Int) + 1, mput names o.name 1, slots, (a ++ locsOf G ((o.defines ++ o.uses).drop j)) ++ [insO 20 (((grow cs o).length : Int) - 1)], grow cs o) else some noR) (by omega) (fun go j a hj hI hgo => ?_) (fun go a hI => ?_) (by simp)]
 ·rw [List.drop_zero]
 ·show w6 (x2 : Int) names cs go7 o slots o.defines go j a = _
  unfold w6
  have hk := hS.2 (o.defines ++ o.uses)[j]
  rw [if_pos (by omega), n6 hj, f8, List.drop_eq_getElem_cons hj, List.all_cons]
  unfold mhas mget
  rw [hk]
  cases hb : inL G (o.defines ++ o.uses)[j]
  ·rw [if_neg (by simp), if_neg (by simp)]; rfl
  ·rw [if_pos rfl, if_pos (show (some (look G (o.defines ++ o.uses)[j])).isSome = true from rfl), j2 (by simp; omega), j2 (by omega), Bool.true_and]
   refine (hgo _ (by simp; omega)).trans ?_
   unfold locsOf
   rw [List.map_cons, List.append_assoc a]; rfl
 ·show w6 (x2 : Int) names cs go7 o slots o.defines go _ a = _
  unfold w6
  rw [if_neg (by omega), List.drop_length, i_codes_eq x2 names cs go7 o slots a hm hl h6 (by omega) h2]
  unfold locsOf
  rw [List.map_nil, List.append_nil]; rfl
def popIf (i : Nat) : List PInstr := if 0 < i then [insO 17 0] else []
theorem i_defs_eq (x2 : Nat) (names : List (List UInt8 × Int)) (x5 : List PInstr) (cs : List PCode) (go7 : (Int × (List ((List UInt8) × Int)) × (List (Int × Int)) × List PInstr × List PCode) → Option (PImage × Bool)) (o : PObj) (g : List Int) (slots : List (Int × Int)) (hS : Slot g slots) (hg : g.length ≤ 100000) (hm : movable o.image) (hl : o.image.codes.length ≤ 1500) (hd : o.defines.length + o.uses.length ≤ 500) (h6 : cs.length ≤ 100000) (h5 : x5.length ≤ 40000) (h2 : x2 ≤ 100)
 (Y : Option (PImage × Bool)) (hgo : ∀ slots', Slot (g ++ o.defines) slots' → go7 ((x2 : Int) + 1, mput names o.name 1, slots', x5 ++ popIf x2 ++ block g cs o, grow cs o) = Y) :
 itr (M5 (x2 : Int) names x5 cs go7 o) LF (0, slots) = if (news g o.defines && defsIn g o) = true then Y else some noR := by
 rw [u9 (L := M5 (x2 : Int) names x5 cs go7 o) o.defines.length (fun j m => Slot (g ++ o.defines.take j) m) (fun j m => if (news (g ++ o.defines.take j) (o.defines.drop j) && defsIn g o) = true then Y else some noR) (by omega) (fun go j m hj hI hgo => ?_) (fun go m hI => ?_) (by simpa using hS)]
 ·simp
 ·show w5 (x2 : Int) names x5 cs go7 o go j m = _
  unfold w5
  have hk := hI.2 o.defines[j]
  rw [if_pos (by omega), n6 hj, f8, List.drop_eq_getElem_cons hj, news]
  unfold mhas
  rw [hk]
  cases hb : inL (g ++ o.defines.take j) o.defines[j]
  ·rw [if_neg (show ¬ false = true by simp), if_neg (show ¬ (none : Option Int).isSome = true by simp), j2 (by omega)]
   refine (hgo _ ?_).trans ?_
   ·rw [aU hj, ← List.append_assoc]; exact slot_put hI hb
   ·rw [aU hj, ← List.append_assoc, Bool.not_false, Bool.true_and]
  ·rw [if_pos rfl, if_pos (show (some (look (g ++ o.defines.take j) o.defines[j])).isSome = true from rfl), Bool.not_true, Bool.false_and, Bool.false_and, if_neg (by simp)]; rfl
 ·show w5 (x2 : Int) names x5 cs go7 o go _ m = _
  unfold w5
  rw [List.take_length] at hI
  rw [if_neg (by omega), List.drop_length, news, Bool.true_and]
  have hY := hgo m hI
  rw [block_eq, ← List.append_assoc] at hY
  unfold popIf at hY
  by_cases h0 : 0 < x2
  ·rw [if_pos h0] at hY
   rw [if_pos (by omega), j2 (by simp; omega)]
   rw [wX x2 names cs go7 o (g ++ o.defines) m hI _ hm hl hd h6 (by simp; omega) h2]
   unfold defsIn
   split
   ·exact hY
   ·rfl
  ·rw [if_neg h0, List.append_nil] at hY
   rw [if_neg (by omega)]
   rw [wX x2 names cs go7 o (g ++ o.defines) m hI _ hm hl hd h6 (by omega) h2]
   unfold defsIn
   split
   ·exact hY
   ·rfl
theorem i_end_eq (g : List Int) (slots : List (Int × Int)) (hS : Slot g slots) (hg : g.length ≤ 10000) (x5 : List PInstr) (cs : List PCode) (h5 : x5.length ≤ 40000) (h6 : cs.length ≤ 50000) (hb : ∀ x ∈ x5, bareI x) (hc : ∀ c ∈ cs, c.small) :
 itr (M8 slots x5 cs) LF (0, []) = some (finR g.length (boxes g.length ++ x5) cs) := by
 have hsl := hS.1
 rw [u9 (L := M8 slots x5 cs) slots.length (fun j a => a = boxes j) (fun _ _ => some (finR g.length (boxes g.length ++ x5) cs)) (by omega) (a := []) (fun go j a hj hI hgo => ?_) (fun go a hI => ?_) rfl]
 ·show w9 slots x5 cs go j a = _
  unfold w9
  have hbl := bV j
  subst hI
  rw [if_pos (by omega), j2 (by simp; omega), j2 (by omega)]
  exact hgo _ (rV j).symm
 ·show w9 slots x5 cs go _ a = _
  unfold w9
  subst hI
  have hbl := bV slots.length
  rw [if_neg (by omega), j2 (by omega), j2 (by simp; omega), j2 (by simp; omega)]
  have e : ∀ c : PCode, (((cs ++ [c]).length : Int) - 1) = (cs.length : Int) := fun c => by simp
  simp only [e]
  rw [j2 (by omega), hsl]
  have hsm : (finM g.length (boxes g.length ++ x5) cs).small := kX (aJ (kT _) hb) (by rw [List.length_append, bV]; omega) hc (by omega)
  have hi := lU _ hsm 0
  unfold finR
  refine (congrArg (bnd · _) hi).trans ?_
  rw [f8]
  split <;> rfl
theorem popIf_if (i : Nat) : popIf i = if decide (0 < i) = true then [insO 17 0] else [] := by unfold popIf; by_cases h : 0 < i <;> simp [h]
def InvI (list : List PObj) (i : Nat) (a : List (List UInt8 × Int) × List (Int × Int) × List PInstr × List PCode) : Prop :=
 few (list.take i) ∧ KnowT (namesOf (list.take i)) a.1 ∧ Slot (gAll (list.take i)) a.2.1 ∧ (a.2.2.1.length ≤ 502 * i ∧ ∀ x ∈ a.2.2.1, bareI x) ∧ (a.2.2.2.length ≤ 1500 * i ∧ ∀ c ∈ a.2.2.2, c.small)
def outI (list : List PObj) (i : Nat) (main : List PInstr) (cs : List PCode) : Option (PImage × Bool) :=
 if okAB (gAll (list.take i)) (namesOf (list.take i)) (list.drop i) = true then some (finR (gAll list).length (boxes (gAll list).length ++ (main ++ joinedI (decide (0 < i)) (gAll (list.take i)) cs (list.drop i))) (codesAll cs (list.drop i))) else some noR
theorem mM (list : List PObj) (hs : ∀ o ∈ list, o.small) : K6 list = some (linkR list) := by
 unfold K6 linkR inside
 by_cases h1 : (list.length : Int) < 1
 ·have : decide (1 ≤ (list.length : Int)) = false := by simp; omega
  rw [if_pos h1, this]; rfl
 by_cases h2 : (list.length : Int) > 12
 ·have h1' : decide (1 ≤ (list.length : Int)) = true := by simp; omega
  have : decide ((list.length : Int) ≤ 12) = false := by simp; omega
  rw [if_neg h1, if_pos h2, h1', this]; rfl
 have h1' : decide (1 ≤ (list.length : Int)) = true := by simp; omega
 have h2' : decide ((list.length : Int) ≤ 12) = true := by simp; omega
 rw [if_neg h1, if_neg h2, h1', h2', Bool.true_and, if_pos rfl]
 rw [u9 (L := W2 list) list.length (InvI list) (fun i a => outI list i a.2.2.1 a.2.2.2) (by omega) (fun go i a hi hI hgo => ?_) (fun go a hI => ?_) (a := ([], [], [], [])) (show InvI list 0 ([], [], [], []) from ⟨(fun o ho => by cases ho), knowT_nil, slot_nil, ⟨by simp, (fun x hx => by cases hx)⟩, ⟨by simp, (fun x hx => by cases hx)⟩⟩)]
 ·unfold outI
  rw [List.take_zero, List.drop_zero, okAB_eq, sD]
  show (if (okA [] [] list && okU [] list) = true then some (linkF list) else some noR) = _
  split <;> rfl
 ·obtain ⟨names, slots, x5, cs⟩ := a
  obtain ⟨hf, hK, hS, ⟨h5, hb⟩, ⟨h6, hc⟩⟩ := hI
  dsimp only at hK hS h5 hb h6 hc
  show v9 list go i names slots x5 cs = outI list i x5 cs
  unfold v9 outI
  have hso := hs _ (List.getElem_mem hi)
  have hSM : SM list[i].name := by have := hso.1; unfold SM; omega
  have hgl := dC hf
  rw [List.length_take] at hgl
  rw [if_pos (by omega), n6 hi, f8, tN _ hso hSM, f8, List.drop_eq_getElem_cons hi, okAB]
  cases ho : isObj list[i]
  ·rw [if_neg (by simp), Bool.false_and, if_neg (by simp)]; rfl
  ·have hfo := iB ho
   rw [if_pos rfl, Bool.true_and, ← hK list[i].name]
   by_cases hn : mget names list[i].name = 1
   ·rw [if_pos hn, decide_eq_true hn, Bool.not_true, Bool.false_and, if_neg (by simp)]; rfl
   ·rw [if_neg hn, decide_eq_false hn, Bool.not_false, Bool.true_and]
    have hmv := pE ho hso
    have hgr := iZ cs list[i]
    have hbl := nU (gAll (list.take i)) cs list[i]
    have hpl : (popIf i).length ≤ 1 := by unfold popIf; split <;> simp
    have hp0 : i = 0 → popIf i = [] := fun h => by unfold popIf; rw [if_neg (by omega)]
    rw [i_defs_eq i names x5 cs go list[i] (gAll (list.take i)) slots hS (by omega) hmv hfo.2 hfo.1 (by omega) (by omega) (by omega) (outI list (i + 1) (x5 ++ popIf i ++ block (gAll (list.take i)) cs list[i]) (grow cs list[i])) (fun slots' hS' => ?_)]
    ·unfold outI
     rw [eJ hi, eU hi]
     show _ = if (news (gAll (list.take i)) list[i].defines && (defsIn (gAll (list.take i)) list[i] && okAB (gAll (list.take i) ++ list[i].defines) (namesOf (list.take i) ++ [list[i].name]) (list.drop (i + 1)))) = true then some (finR (gAll list).length (boxes (gAll list).length ++ (x5 ++ ((if decide (0 < i) = true then [insO 17 0] else []) ++ (block (gAll (list.take i)) cs list[i] ++ joinedI true (gAll (list.take i) ++ list[i].defines) (grow cs list[i]) (list.drop (i + 1)))))) (codesAll (grow cs list[i]) (list.drop (i + 1)))) else some noR
     rw [popIf_if, decide_eq_true (show 0 < i + 1 by omega)]
     cases news (gAll (list.take i)) list[i].defines <;> cases defsIn (gAll (list.take i)) list[i] <;> simp
    ·refine hgo _ ⟨few_take hi hf ho, ?_, ?_, ⟨?_, ?_⟩, ⟨?_, ?_⟩⟩
     ·rw [eU hi]; exact knowT_put hK _
     ·rw [eJ hi]; exact hS'
     ·show (x5 ++ popIf i ++ block (gAll (list.take i)) cs list[i]).length ≤ _
      rw [List.length_append, List.length_append]; omega
     ·refine aJ (aJ hb ?_) (kS _ _ _)
      unfold popIf
      split
      ·exact nG 17 0
      ·exact fun x hx => by cases hx
     ·show (grow cs list[i]).length ≤ _
      omega
     ·exact kY hso hc
 ·obtain ⟨names, slots, x5, cs⟩ := a
  obtain ⟨hf, hK, hS, ⟨h5, hb⟩, ⟨h6, hc⟩⟩ := hI
  dsimp only at hK hS h5 hb h6 hc
  show v9 list go _ names slots x5 cs = outI list list.length x5 cs
  unfold v9 outI
  have hgl := dC hf
  rw [List.take_length] at hS hgl
  rw [if_neg (by omega), List.drop_length, i_end_eq (gAll list) slots hS (by omega) x5 cs (by omega) (by omega) hb hc]
  rw [okAB, if_pos rfl, joinedI, List.append_nil]; rfl
end Go.Abs

namespace Go.Abs
open PD
theorem boxes_add (n : Nat) : boxes n ++ [PInstr.mk 9 (n : Int) (PD.mk 0 0 ([] : List UInt8) [])] = boxes (n + 1) := (rV n).symm
theorem s_defs_eq (x3 : Nat) (names : List (List UInt8)) (go7 : (Int × List Int × List (List UInt8) × List PInstr) → Option (PImage × Bool)) (o : PObj) (g : List Int) (hg : g.length ≤ 100000) (hd : o.defines.length ≤ 500) (hn : names.length ≤ 1000) (h3 : x3 ≤ 100) :
 itr (N3 (x3 : Int) names go7 o) LF (0, g, boxes g.length) = if news g o.defines = true then go7 ((x3 : Int) + 1, g ++ o.defines, names ++ [o.name], boxes (g ++ o.defines).length) else some noR := by
 rw [u9 (L := N3 (x3 : Int) names go7 o) o.defines.length (fun j a => a = (g ++ o.defines.take j, boxes (g ++ o.defines.take j).length)) (fun j _ => if news (g ++ o.defines.take j) (o.defines.drop j) = true then go7 ((x3 : Int) + 1, g ++ o.defines, names ++ [o.name], boxes (g ++ o.defines).length) else some noR) (by omega) (fun go j a hj hI hgo => ?_) (fun go a hI => ?_) (by simp)]
 ·simp
 ·subst hI
  show y7 (x3 : Int) names go7 o go j _ _ = _
  unfold y7
  have hl : (g ++ o.defines.take j).length = g.length + j := by rw [List.length_append, List.length_take]; omega
  have hbl := bV (g ++ o.defines.take j).length
  rw [if_pos (by omega), n6 hj, f8, jX _ _ (by omega), f8, List.drop_eq_getElem_cons hj, news]
  show (if inL (g ++ o.defines.take j) o.defines[j] = true then _ else _) = _
  cases hb : inL (g ++ o.defines.take j) o.defines[j]
  ·rw [if_neg (by simp), j2 (by simp only [List.length_cons, List.length_nil]; omega), j2 (by simp only [List.length_cons, List.length_nil]; omega), j2 (by omega), Bool.not_false, Bool.true_and, boxes_add]
   refine (hgo _ ?_).trans ?_
   ·rw [aU hj, ← List.append_assoc, List.length_append (bs := [o.defines[j]])]; rfl
   ·rw [aU hj, ← List.append_assoc]
  ·rw [if_pos rfl, Bool.not_true, Bool.false_and, if_neg (by simp)]; rfl
 ·subst hI
  show y7 (x3 : Int) names go7 o go _ _ _ = _
  unfold y7
  rw [if_neg (by omega), j2 (by simp; omega), j2 (by omega), List.take_length, List.drop_length, news, if_pos rfl]
theorem s_vars_eq (list : List PObj) (i : Nat) (hi : i < list.length) (hlen : list.length ≤ 12) (cs : List PCode) (go13 : (List Int × Int × Int × List PInstr × List PCode) → Option (PImage × Bool)) (x11 : List PInstr) (hm : movable list[i].image) (hl : list[i].image.codes.length ≤ 1500) (hd : list[i].defines.length + list[i].uses.length ≤ 500) (hg : (gAll list).length ≤ 10000) (h6 : cs.length ≤ 100000) (h11 : x11.length ≤ 50000) :
 itr (N5 list (gAll list) ((gAll (list.take i)).length : Int) (i : Int) cs go13 list[i] list[i].defines) LF (0, x11) = if defsIn (gAll (list.take i)) list[i] = true then go13 (gAll list, ((gAll (list.take (i + 1))).length : Int), (i : Int) + 1, x11 ++ block (gAll (list.take i)) cs list[i] ++ (if (list.drop (i + 1)).length = 0 then [] else [insO 17 0]), grow cs list[i]) else some noR := by
 have hsplit : gAll list = gAll (list.take (i + 1)) ++ gAll (list.drop (i + 1)) := by
  unfold gAll; rw [← List.flatMap_append, List.take_append_drop]
 have hgt := eJ hi
 have hgl : (gAll (list.take (i + 1))).length = (gAll (list.take i)).length + list[i].defines.length := by rw [hgt, List.length_append]
 have hle : (gAll (list.take (i + 1))).length ≤ (gAll list).length := by rw [hsplit, List.length_append]; omega
 have htk : (gAll list).take (((gAll (list.take i)).length : Int) + (list[i].defines.length : Int)).toNat = gAll (list.take i) ++ list[i].defines := by
  have e : (((gAll (list.take i)).length : Int) + (list[i].defines.length : Int)).toNat = (gAll (list.take (i + 1))).length := by omega
  rw [e, ← hgt]
  conv => lhs; rw [hsplit]
  rw [List.take_append_of_le_length (Nat.le_refl _), List.take_length]
 have hvl : (list[i].defines ++ list[i].uses).length ≤ 500 := by rw [List.length_append]; omega
 rw [u9 (L := N5 list (gAll list) ((gAll (list.take i)).length : Int) (i : Int) cs go13 list[i] list[i].defines) (list[i].defines ++ list[i].uses).length (fun j a => a.length = x11.length + j) (fun j a => if (((list[i].defines ++ list[i].uses).drop j).all fun n => inL (gAll (list.take i) ++ list[i].defines) n) = true then go13 (gAll list, ((gAll (list.take (i + 1))).length : Int), (i : Int) + 1, (a ++ locsOf (gAll (list.take i) ++ list[i].defines) ((list[i].defines ++ list[i].uses).drop j)) ++ [insO 20 (((grow cs list[i]).length : Int) - 1)] ++ (if (list.drop (i + 1)).length = 0 then [] else [insO 17 0]), grow cs list[i]) else some noR) (by omega) (fun go j a hj hI hgo => ?_) (fun go a hI => ?_) (by simp)]
 ·rw [List.drop_zero, block_eq, ← List.append_assoc x11]; rfl
 ·show y8 list (gAll list) ((gAll (list.take i)).length : Int) (i : Int) cs go13 list[i] list[i].defines go j a = _
  unfold y8
  have hlk := look_neg (gAll (list.take i) ++ list[i].defines) (list[i].defines ++ list[i].uses)[j]
  rw [if_pos (by omega), n6 hj, f8, j2 (by omega), htk, s_l5Look_eq _ _ (by rw [← hgt]; omega), f8, List.drop_eq_getElem_cons hj, List.all_cons]
  cases hb : inL (gAll (list.take i) ++ list[i].defines) (list[i].defines ++ list[i].uses)[j]
  ·rw [hb] at hlk
   rw [if_pos (by simpa using hlk), Bool.false_and, if_neg (by simp)]; rfl
  ·rw [hb] at hlk
   rw [if_neg (by simpa using hlk), j2 (by simp; omega), j2 (by omega), Bool.true_and]
   refine (hgo _ (by simp; omega)).trans ?_
   unfold locsOf
   rw [List.map_cons, List.append_assoc a]; rfl
 ·show y8 list (gAll list) ((gAll (list.take i)).length : Int) (i : Int) cs go13 list[i] list[i].defines go _ a = _
  unfold y8 D0
  have hgr := iZ cs list[i]
  have eg : cs ++ list[i].image.codes.map (shiftC (cs.length : Int)) = grow cs list[i] := rfl
  have ek : ((gAll (list.take i)).length : Int) + (list[i].defines.length : Int) = ((gAll (list.take (i + 1))).length : Int) := by omega
  rw [if_neg (by omega), List.drop_length, uP _ cs.length h6 hm (by omega), f8, j2 (by simp; omega), eg, ek, j2 (by omega), j2 (by simp; omega), j2 (by omega)]
  unfold locsOf
  rw [List.map_nil, List.append_nil, List.all_nil, if_pos rfl, List.length_drop]
  by_cases he : (i : Int) < (list.length : Int) - 1
  ·rw [if_pos he, if_neg (by omega), j2 (by simp; omega), j2 (by omega)]; rfl
  ·rw [if_neg he, if_pos (by omega), j2 (by omega), List.append_nil]; rfl
def InvS (list : List PObj) (i : Nat) (main : List PInstr) (cs : List PCode) : Prop :=
 (main.length ≤ (gAll list).length + 502 * i ∧ ∀ x ∈ main, bareI x) ∧ (cs.length ≤ 1500 * i ∧ ∀ c ∈ cs, c.small)
def outS (list : List PObj) (i : Nat) (main : List PInstr) (cs : List PCode) : Option (PImage × Bool) :=
 if okU (gAll (list.take i)) (list.drop i) = true then some (finR (gAll list).length (main ++ joined (gAll (list.take i)) cs (list.drop i)) (codesAll cs (list.drop i))) else some noR
theorem s_pass2_eq (list : List PObj) (hlen : list.length ≤ 12) (hs : ∀ o ∈ list, o.small) (hi : ∀ o ∈ list, isObj o = true) :
 itr (N4 list (gAll list)) LF (gAll list, 0, 0, boxes (gAll list).length, []) = if okU [] list = true then some (linkF list) else some noR := by
 have hf : few list := fun o ho => iB (hi o ho)
 have hg := dC hf
 refine (jI (L := N4 list (gAll list)) (fun v => outS list v.2.2.1.toNat v.2.2.2.1 v.2.2.2.2) (fun v => (0 ≤ v.2.2.1 ∧ v.2.2.1 ≤ list.length) ∧ v.1 = gAll list ∧ v.2.1 = ((gAll (list.take v.2.2.1.toNat)).length : Int) ∧ InvS list v.2.2.1.toNat v.2.2.2.1 v.2.2.2.2) (fun v => list.length - v.2.2.1.toNat) (fun go v hv hgo => ?_) _ ⟨⟨by simp, by simp⟩, rfl, rfl, ⟨⟨by dsimp only; rw [bV]; omega, kT _⟩, ⟨by simp, fun c hc => by cases hc⟩⟩⟩ (by simp; omega)).trans ?_
 ·obtain ⟨gl, known, i0, main, cs⟩ := v
  obtain ⟨⟨h0, h1⟩, h2, h3, hI⟩ := hv
  dsimp only at h0 h1 h2 h3 hI ⊢
  obtain ⟨i, rfl⟩ := Int.eq_ofNat_of_zero_le h0
  simp only [Int.ofNat_eq_natCast, Int.toNat_natCast] at *
  subst h2 h3
  obtain ⟨⟨hml, hmb⟩, ⟨hcl, hcs⟩⟩ := hI
  show F8 list (gAll list) go (gAll list) _ i main cs = outS list i main cs
  unfold F8 outS
  by_cases hlt : i < list.length
  ·have ho := hi _ (List.getElem_mem hlt)
   have hso := hs _ (List.getElem_mem hlt)
   have hfo := iB ho
   have hgr := iZ cs list[i]
   have hbl := nU (gAll (list.take i)) cs list[i]
   have hgi : (gAll (list.take i)).length ≤ 6000 := by
    have := dC (l := list.take i) fun o hm => hf o (List.mem_of_mem_take hm)
    rw [List.length_take] at this; omega
   rw [if_pos (by omega), n6 hlt, f8, j2 (by omega), xB _ (by omega), f8, j2 (by omega)]
   rw [s_vars_eq list i hlt hlen cs go main (pE ho hso) hfo.2 hfo.1 (by omega) (by omega) (by omega)]
   rw [List.drop_eq_getElem_cons hlt, okU, joined]
   cases hd : defsIn (gAll (list.take i)) list[i]
   ·rw [if_neg (by simp), Bool.false_and, if_neg (by simp)]
   ·rw [if_pos rfl, Bool.true_and]
    have hpb : ∀ x ∈ (if (list.drop (i + 1)).length = 0 then [] else [insO 17 0]), bareI x := by
     split
     ·exact fun x hx => by cases hx
     ·exact nG 17 0
    have hpl : (if (list.drop (i + 1)).length = 0 then [] else [insO 17 0]).length ≤ 1 := by split <;> simp
    have et : ((i : Int) + 1).toNat = i + 1 := by omega
    refine (hgo (gAll list, ((gAll (list.take (i + 1))).length : Int), (i : Int) + 1, main ++ block (gAll (list.take i)) cs list[i] ++ (if (list.drop (i + 1)).length = 0 then [] else [insO 17 0]), grow cs list[i]) ⟨⟨by show (0 : Int) ≤ (i : Int) + 1; omega, by show (i : Int) + 1 ≤ _; omega⟩, rfl, by dsimp only; rw [et], ⟨⟨?_, ?_⟩, ⟨?_, ?_⟩⟩⟩ (by dsimp only; omega)).trans ?_
    ·dsimp only
     rw [List.length_append, List.length_append, et]; omega
    ·exact aJ (aJ hmb (kS _ _ _)) hpb
    ·dsimp only
     rw [et]; omega
    ·exact kY hso hcs
    ·dsimp only
     unfold outS
     rw [et, eJ hlt, List.append_assoc, List.append_assoc]; rfl
  ·have : i = list.length := by omega
   subst this
   have hsm : (finM (gAll list).length main cs).small := kX hmb (by omega) hcs (by omega)
   have hi := mA _ hsm 0
   rw [if_neg (by omega), j2 (by simp; omega), j2 (by simp; omega), List.drop_length, okU, if_pos rfl, joined, List.append_nil]
   refine (congrArg (bnd · _) hi).trans ?_
   rw [f8]
   show (if isImg (finM (gAll list).length main cs) 0 = true then _ else _) = some (finR (gAll list).length main cs)
   unfold finR
   split <;> rfl
 ·show outS list 0 (boxes (gAll list).length) [] = _
  unfold outS
  rw [List.take_zero, List.drop_zero]; rfl
theorem mV (list : List PObj) (hs : ∀ o ∈ list, o.small) : Q9 list = some (linkR list) := by
 unfold Q9 linkR
 rw [V2, f8]
 cases hin : inside (list.length : Int) 1 12
 ·rw [if_neg (by simp), if_neg (by simp)]; rfl
 rw [if_pos rfl, if_pos rfl]
 have hlen : list.length ≤ 12 := by
  unfold inside at hin
  simp only [Bool.and_eq_true, decide_eq_true_eq] at hin
  omega
 rw [u9 (L := W5 list) list.length (fun i a => (∀ o ∈ list.take i, isObj o = true) ∧ a = (gAll (list.take i), namesOf (list.take i), boxes (gAll (list.take i)).length)) (fun i _ => if (okA (gAll (list.take i)) (namesOf (list.take i)) (list.drop i) && okU [] list) = true then some (linkF list) else some noR) (by omega) (fun go i a hi hI hgo => ?_) (fun go a hI => ?_) ⟨(fun o ho => by cases ho), rfl⟩ (a := (([] : List Int), ([] : List (List UInt8)), ([] : List PInstr)))]
 ·rw [List.take_zero, List.drop_zero]
  show (if (okA [] [] list && okU [] list) = true then some (linkF list) else some noR) = _
  split <;> rfl
 ·obtain ⟨hob, rfl⟩ := hI
  show y6 list go i _ _ _ = _
  unfold y6
  have hso := hs _ (List.getElem_mem hi)
  have hSM : SM list[i].name := by have := hso.1; unfold SM; omega
  have hf : few (list.take i) := fun o ho => iB (hob o ho)
  have hgl := dC hf
  rw [List.length_take] at hgl
  have hnl : (namesOf (list.take i)).length ≤ 12 := by unfold namesOf; rw [List.length_map, List.length_take]; omega
  rw [if_pos (by omega), n6 hi, f8, uK _ hso hSM, f8, List.drop_eq_getElem_cons hi, okA]
  cases ho : isObj list[i]
  ·rw [if_neg (by simp), Bool.false_and, Bool.false_and, if_neg (by simp)]; rfl
  ·have hfo := iB ho
   rw [if_pos rfl, Bool.true_and, s_l1Has_eq _ _ (by omega), f8]
   cases hn : inL (namesOf (list.take i)) list[i].name
   ·rw [if_neg (by simp), Bool.not_false, Bool.true_and, s_defs_eq i _ go list[i] _ (by omega) (by omega) (by omega) (by omega)]
    cases hnw : news (gAll (list.take i)) list[i].defines
    ·rw [if_neg (by simp), Bool.false_and, Bool.false_and, if_neg (by simp)]
    ·rw [if_pos rfl, Bool.true_and, ← eJ hi, ← eU hi]
     refine hgo _ ⟨?_, rfl⟩
     rw [aU hi]
     intro o hm
     rcases List.mem_append.1 hm with hm | hm
     ·exact hob o hm
     ·rw [List.mem_singleton] at hm; subst hm; exact ho
   ·rw [if_pos rfl, Bool.not_true, Bool.false_and, Bool.false_and, if_neg (by simp)]; rfl
 ·obtain ⟨hob, rfl⟩ := hI
  show y6 list go _ _ _ _ = _
  unfold y6
  rw [List.take_length] at hob ⊢
  rw [if_neg (by omega), List.drop_length, okA, Bool.true_and]
  exact s_pass2_eq list hlen hs hob
end Go.Abs

namespace Go.Abs
open PD
def mAll {α : Type} (M : Int → α → Int × α) : Int → List α → Int × List α
 | k, [] => (k, [])
 | k, x :: r => ((mAll M (M k x).1 r).1, (M k x).2 :: (mAll M (M k x).1 r).2)
theorem M9 {α : Type} (M : Int → α → Int × α) : ∀ (xs : List α) (k : Int), (mAll M k xs).2.length = xs.length
 | [], _ => rfl
 | x :: r, k => by simp [mAll, M9 M r]
theorem wts_nil {α : Type} (wt : α → Nat) : wts wt ([] : List α) = 0 := rfl
theorem eQ {α : Type} {M : Int → α → Int × α} {wt : α → Nat} (hM : ∀ k x, k ≤ (M k x).1 ∧ (M k x).1 ≤ k + 6 * ((1 + wt x : Nat) : Int)) : ∀ (xs : List α) (k : Int), k ≤ (mAll M k xs).1 ∧ (mAll M k xs).1 ≤ k + 6 * ((wts wt xs : Nat) : Int)
 | [], k => by rw [wts_nil]; exact ⟨Int.le_refl _, by show k ≤ _; omega⟩
 | x :: r, k => by
  have h1 := hM k x
  have h2 := eQ hM r (M k x).1
  rw [kO]
  unfold mAll
  dsimp only
  omega
theorem set_take {α : Type} {a : List α} {i : Nat} {y : α} (h : i < a.length) : (a.set i y).take (i + 1) = a.take i ++ [y] ∧ (a.set i y).drop (i + 1) = a.drop (i + 1) := by
 rw [List.set_eq_take_append_cons_drop, if_pos h]
 have e : (a.take i).length = i := by rw [List.length_take]; omega
 constructor
 ·rw [List.take_append, e, List.take_of_length_le (by omega)]
  simp
 ·rw [List.drop_append, e, List.drop_of_length_le (by omega)]
  simp
theorem fY {α : Type} {M : Int → α → Int × α} (wt : α → Nat) (S : α → Prop) (B : Int) {L : (Int × Int × List α → Option (Int × List α)) → Int × Int × List α → Option (Int × List α)}
 (hM : ∀ k x, k ≤ (M k x).1 ∧ (M k x).1 ≤ k + 6 * ((1 + wt x : Nat) : Int))
 (step : ∀ go (i : Nat) k (a : List α) (hi : i < a.length), a.length ≤ 4000000 → S a[i] → 0 ≤ k → k + 6 * ((1 + wt a[i] : Nat) : Int) ≤ B → L go (k, (i : Int), a) = go ((M k a[i]).1, (i : Int) + 1, a.set i (M k a[i]).2))
 (fin : ∀ go k (a : List α), L go (k, (a.length : Int), a) = some (k, a))
 (xs : List α) (hS : ∀ x ∈ xs, S x) (hn : xs.length ≤ 4000000) (k : Int) (h0 : 0 ≤ k) (hB : k + 6 * ((wts wt xs : Nat) : Int) ≤ B) : itr L LF (k, 0, xs) = some (mAll M k xs) := by
 refine (jI (L := L) (fun v => some ((mAll M v.1 (v.2.2.drop v.2.1.toNat)).1, v.2.2.take v.2.1.toNat ++ (mAll M v.1 (v.2.2.drop v.2.1.toNat)).2)) (fun v => (0 ≤ v.2.1 ∧ v.2.1 ≤ v.2.2.length) ∧ v.2.2.length ≤ 4000000 ∧ (∀ x ∈ v.2.2.drop v.2.1.toNat, S x) ∧ 0 ≤ v.1 ∧ v.1 + 6 * ((wts wt (v.2.2.drop v.2.1.toNat) : Nat) : Int) ≤ B) (fun v => v.2.2.length - v.2.1.toNat) (fun go v hv hgo => ?_) (k, 0, xs) ⟨⟨Int.le_refl _, by show (0 : Int) ≤ (xs.length : Int); omega⟩, hn, by simpa using hS, h0, by simpa using hB⟩ (by show xs.length - 0 < _; omega)).trans (by simp)
 obtain ⟨k, j, a⟩ := v
 obtain ⟨⟨h1, h2⟩, h3, h4, h5, h6⟩ := hv
 simp only at h1 h2 h3 h4 h5 h6
 obtain ⟨i, rfl⟩ := Int.eq_ofNat_of_zero_le h1
 simp only [Int.ofNat_eq_natCast, Int.toNat_natCast] at *
 by_cases hi : i < a.length
 ·rw [List.drop_eq_getElem_cons hi] at h4 h6 ⊢
  rw [kO] at h6
  have hm := hM k a[i]
  have hst := set_take (y := (M k a[i]).2) hi
  rw [step go i k a hi h3 (h4 _ List.mem_cons_self) h5 (by omega)]
  refine (hgo ((M k a[i]).1, (i : Int) + 1, a.set i (M k a[i]).2) ⟨⟨by show (0 : Int) ≤ (i : Int) + 1; omega, by show (i : Int) + 1 ≤ ((a.set i _).length : Int); rw [List.length_set]; omega⟩, by show (a.set i _).length ≤ _; rw [List.length_set]; omega, ?_, by show 0 ≤ (M k a[i]).1; omega, ?_⟩ (by show (a.set i _).length - ((i : Int) + 1).toNat < _; rw [List.length_set]; omega)).trans ?_
  ·show ∀ x ∈ (a.set i _).drop ((i : Int) + 1).toNat, S x
   rw [show ((i : Int) + 1).toNat = i + 1 by omega, hst.2]
   exact fun x hx => h4 x (List.mem_cons_of_mem _ hx)
  ·show (M k a[i]).1 + 6 * ((wts wt ((a.set i _).drop ((i : Int) + 1).toNat) : Nat) : Int) ≤ B
   rw [show ((i : Int) + 1).toNat = i + 1 by omega, hst.2]
   omega
  ·show some ((mAll M (M k a[i]).1 ((a.set i _).drop ((i : Int) + 1).toNat)).1, (a.set i _).take ((i : Int) + 1).toNat ++ (mAll M (M k a[i]).1 ((a.set i _).drop ((i : Int) + 1).toNat)).2) = _
   rw [show ((i : Int) + 1).toNat = i + 1 by omega, hst.2, hst.1, List.append_assoc]
   rfl
 ·have : i = a.length := by omega
  subst this
  rw [fin, List.drop_length, List.take_length]
  simp [mAll]
theorem lA {α : Type} {M : Int → α → Int × α} (wt : α → Nat) (S : α → Prop) (B : Int) (a : List α) {L : (Int × Int → Option Int) → Int × Int → Option Int}
 (hM : ∀ k x, k ≤ (M k x).1 ∧ (M k x).1 ≤ k + 6 * ((1 + wt x : Nat) : Int))
 (step : ∀ go (i : Nat) k (hi : i < a.length) x, a[i] = (M k x).2 → S x → 0 ≤ k → k + 6 * ((1 + wt x : Nat) : Int) ≤ B → L go (k, (i : Int)) = go ((M k x).1, (i : Int) + 1))
 (fin : ∀ go k, L go (k, (a.length : Int)) = some k)
 (xs : List α) (hS : ∀ x ∈ xs, S x) (hn : xs.length ≤ 4000000) (k : Int) (h0 : 0 ≤ k) (hB : k + 6 * ((wts wt xs : Nat) : Int) ≤ B) (ha : a = (mAll M k xs).2) : itr L LF (k, 0) = some (mAll M k xs).1 := by
 have hal : a.length = xs.length := by rw [ha, M9]
 refine jI (L := L) (fun _ => some (mAll M k xs).1) (fun v => (0 ≤ v.2 ∧ v.2 ≤ a.length) ∧ ∃ ys, a.drop v.2.toNat = (mAll M v.1 ys).2 ∧ (mAll M v.1 ys).1 = (mAll M k xs).1 ∧ (∀ x ∈ ys, S x) ∧ 0 ≤ v.1 ∧ v.1 + 6 * ((wts wt ys : Nat) : Int) ≤ B) (fun v => a.length - v.2.toNat) (fun go v hv hgo => ?_) (k, 0) ⟨⟨Int.le_refl _, by show (0 : Int) ≤ (a.length : Int); omega⟩, xs, by simpa using ha, rfl, hS, h0, hB⟩ (by show a.length - 0 < _; omega)
 obtain ⟨k1, j⟩ := v
 obtain ⟨⟨h1, h2⟩, ys, g1, g2, g3, g4, g5⟩ := hv
 simp only at h1 h2 g1 g2 g3 g4 g5
 obtain ⟨i, rfl⟩ := Int.eq_ofNat_of_zero_le h1
 simp only [Int.ofNat_eq_natCast, Int.toNat_natCast] at *
 by_cases hi : i < a.length
 ·rw [List.drop_eq_getElem_cons hi] at g1
  cases ys with
  | nil => simp [mAll] at g1; omega
  | cons y r =>
   have g2 : (mAll M (M k1 y).1 r).1 = (mAll M k xs).1 := g2
   have g1 : a[i] :: a.drop (i + 1) = (M k1 y).2 :: (mAll M (M k1 y).1 r).2 := g1
   simp only [List.cons.injEq] at g1
   rw [kO] at g5
   have hm := hM k1 y
   rw [step go i k1 hi y g1.1 (g3 y (by simp)) g4 (by omega)]
   exact hgo ((M k1 y).1, (i : Int) + 1) ⟨⟨by show (0 : Int) ≤ (i : Int) + 1; omega, by show (i : Int) + 1 ≤ _; omega⟩, r, by show a.drop ((i : Int) + 1).toNat = _; rw [show ((i : Int) + 1).toNat = i + 1 by omega]; exact g1.2, g2, fun x hx => g3 x (by simp [hx]), by show 0 ≤ (M k1 y).1; omega, by show (M k1 y).1 + _ ≤ _; omega⟩ (by show a.length - ((i : Int) + 1).toNat < a.length - i; omega)
 ·have : i = a.length := by omega
  subst this
  rw [fin]
  rw [List.drop_length] at g1
  cases ys with
  | nil => rw [← g2]; rfl
  | cons y r => simp [mAll] at g1
def mI (k : Int) (_ : Int) : Int × Int := (k + 1, k)
theorem mI_le (k x : Int) : k ≤ (mI k x).1 ∧ (mI k x).1 ≤ k + 6 * ((1 + 0 : Nat) : Int) := by unfold mI; dsimp only; omega
theorem wts_0 {α : Type} (xs : List α) : wts (fun _ => 0) xs = xs.length := by
 induction xs with
 | nil => rfl
 | cons x r ih => rw [kO, ih]; simp; omega
theorem pB (xs : List Int) (k : Int) (hn : xs.length ≤ 4000000) (h0 : 0 ≤ k) (h1 : k + 6 * (xs.length : Int) ≤ 1000000000000) : P4 xs k = some (mAll mI k xs) := by
 unfold P4
 refine fY (L := X2) (fun _ => 0) (fun _ => True) 1000000000000 (fun k x => mI_le k x) (fun go i k a hi ha _ h0 h1 => ?_) (fun go k a => ?_) xs (fun _ _ => trivial) hn k h0 (by rw [wts_0]; exact h1)
 ·show z8 go k i a = _
  unfold z8
  rw [if_pos (by omega), n6 hi, f8, j2 (by omega), j2 (by omega), Int.toNat_natCast]; rfl
 ·show z8 go k _ a = _
  unfold z8
  rw [if_neg (by omega)]
def mtx (k : Int) : List UInt8 := (G1 k).getD []
theorem dK {k : Int} (h : k ≤ 4611686018427387904) : G1 k = some (mtx k) := by
 obtain ⟨t, ht⟩ := X0 k h
 unfold mtx; rw [ht]; rfl
mutual
def mD : Int → PD → Int × PD
 | k, .mk _ _ _ is => ((mDs (k + 1 + 1 + 1) is).1, .mk k (k + 1) (mtx (k + 1 + 1)) (mDs (k + 1 + 1 + 1) is).2)
def mDs : Int → List PD → Int × List PD
 | k, [] => (k, [])
 | k, d :: r => ((mDs (mD k d).1 r).1, (mD k d).2 :: (mDs (mD k d).1 r).2)
end
theorem mDs_eq : ∀ (ds : List PD) (k : Int), mDs k ds = mAll mD k ds
 | [], _ => by unfold mDs mAll; rfl
 | d :: r, k => by unfold mDs mAll; rw [mDs_eq r]
theorem mD_eq (k : Int) (d : PD) : mD k d = ((mAll mD (k + 1 + 1 + 1) d.items).1, .mk k (k + 1) (mtx (k + 1 + 1)) (mAll mD (k + 1 + 1 + 1) d.items).2) := by
 cases d; unfold mD; rw [mDs_eq]; rfl
theorem mD_le : (∀ d : PD, ∀ k, k ≤ (mD k d).1 ∧ (mD k d).1 ≤ k + 6 * ((1 + wD d : Nat) : Int)) ∧ ∀ ds : List PD, ∀ k, k ≤ (mAll mD k ds).1 ∧ (mAll mD k ds).1 ≤ k + 6 * ((wDs ds : Nat) : Int) := by
 refine PD.ind (fun ds h k => ?_) (fun d h k => ?_)
 ·induction ds generalizing k with
  | nil => exact ⟨Int.le_refl _, by show k ≤ _; omega⟩
  | cons x r ih =>
   have h1 := h x (by simp) k
   have h2 := ih (fun y hy => h y (by simp [hy])) (mD k x).1
   unfold wDs mAll
   dsimp only
   omega
 ·have h1 := h (k + 1 + 1 + 1)
  have h2 := qG d
  rw [mD_eq]
  dsimp only
  omega
theorem jN : ∀ (n : Nat) (ds : List PD) (k : Int), PD.cnts ds < n → wDs ds ≤ 4000000 → 0 ≤ k → k + 6 * ((wDs ds : Nat) : Int) ≤ 1000000000000 → l6 n ds k = some (mAll mD k ds)
 | 0, ds, k, h, _, _, _ => by omega
 | n + 1, ds, k, h, hc, h0, h1 => by
  show F0 (l6 n) ds k = _
  unfold F0
  have hl := PD.cnts_len ds
  have hw := nZ.2 ds
  refine fY (L := R1 (l6 n)) wD (fun x => wD x ≤ 4000000 ∧ x.cnt < n) 1000000000000 (fun k x => mD_le.1 x k) (fun go i k1 a hi ha hx hk hB => ?_) (fun go k1 a => ?_) ds (fun x hx => ⟨by have := vA hx; omega, by have := PD.cnts_mem hx; omega⟩) (by omega) k h0 (by rw [← yT]; exact h1)
  ·show p7 (l6 n) go k1 (i : Int) a = _
   unfold p7
   have hwi := qG a[i]
   have hci := PD.cnt_eq a[i]
   simp only [Int.toNat_natCast, List.set_set]
   rw [if_pos (by omega), n6 hi, f8, j2 (by omega), z9 hi, f8, j2 (by omega), dK (by omega), f8, z9 hi, f8, j2 (by omega), z9 hi, f8]
   try simp only [aP, eS, U7, eT]
   rw [jN n a[i].items (k1 + 1 + 1 + 1) (by omega) (by omega) (by omega) (by omega), f8]
   refine (j2 (M9 mD a[i].items _)).trans ((j2 (by omega)).trans ?_)
   rw [mD_eq]
  ·show p7 (l6 n) go k1 _ a = _
   unfold p7
   rw [if_neg (by omega)]
theorem jA : ∀ (n : Nat) (ds : List PD) (k : Int), PD.cnts ds < n → wDs ds ≤ 4000000 → 0 ≤ k → k + 6 * ((wDs ds : Nat) : Int) ≤ 1000000000000 → m8 n (mAll mD k ds).2 k = some (mAll mD k ds).1
 | 0, ds, k, h, _, _, _ => by omega
 | n + 1, ds, k, h, hc, h0, h1 => by
  show L8 (m8 n) (mAll mD k ds).2 k = _
  unfold L8
  have hl := PD.cnts_len ds
  have hw := nZ.2 ds
  have hal : (mAll mD k ds).2.length = ds.length := M9 _ _ _
  refine lA (L := Z9 (m8 n) (mAll mD k ds).2) wD (fun x => wD x ≤ 4000000 ∧ x.cnt < n) 1000000000000 (mAll mD k ds).2 (fun k x => mD_le.1 x k) (fun go i k1 hi x hx hS hk hB => ?_) (fun go k1 => ?_) ds (fun x hx => ⟨by have := vA hx; omega, by have := PD.cnts_mem hx; omega⟩) (by omega) k h0 (by rw [← yT]; exact h1) rfl
  ·show A5 (m8 n) (mAll mD k ds).2 go k1 (i : Int) = _
   unfold A5
   have hwi := qG x
   have hci := PD.cnt_eq x
   have hle := mD_le.2 x.items (k1 + 1 + 1 + 1)
   rw [mD_eq] at hx
   rw [if_pos (by omega), n6 hi, hx]
   simp only [f8, aP, eS, U7, eT]
   rw [if_pos trivial, j2 (by omega), if_pos trivial, j2 (by omega), dK (by omega), f8]
   refine (if_pos rfl).trans ?_
   rw [j2 (by omega), jA n x.items (k1 + 1 + 1 + 1) (by omega) (by omega) (by omega) (by omega), f8, if_neg (by omega), j2 (by omega), mD_eq]
  ·show A5 (m8 n) (mAll mD k ds).2 go k1 _ = _
   unfold A5
   rw [if_neg (by omega)]
def mN (k : Int) (x : PInstr) : Int × PInstr := ((mAll mD (k + 1 + 1 + 1 + 1 + 1) x.d.items).1, PInstr.mk k (k + 1) (PD.mk (k + 1 + 1) (k + 1 + 1 + 1) (mtx (k + 1 + 1 + 1 + 1)) (mAll mD (k + 1 + 1 + 1 + 1 + 1) x.d.items).2))
theorem mN_le (k : Int) (x : PInstr) : k ≤ (mN k x).1 ∧ (mN k x).1 ≤ k + 6 * ((1 + wI x : Nat) : Int) := by
 have h := mD_le.2 x.d.items (k + 1 + 1 + 1 + 1 + 1)
 have h2 := qG x.d
 have h3 : wI x = wD x.d := rfl
 unfold mN
 dsimp only
 omega
def mC (k : Int) (c : PCode) : Int × PCode := ((mAll mN (k + 1 + 1 + 1) c.instrs).1, PCode.mk k (k + 1) (k + 1 + 1) (mAll mN (k + 1 + 1 + 1) c.instrs).2)
theorem mC_le (k : Int) (c : PCode) : k ≤ (mC k c).1 ∧ (mC k c).1 ≤ k + 6 * ((1 + wC c : Nat) : Int) := by
 have h := eQ mN_le c.instrs (k + 1 + 1 + 1)
 have h3 : wC c = wts wI c.instrs := rfl
 unfold mC
 dsimp only
 omega
theorem mInstrS_eq (xs : List PInstr) (k : Int) (hw : wts wI xs ≤ 4000000) (h0 : 0 ≤ k) (h1 : k + 6 * ((wts wI xs : Nat) : Int) ≤ 1000000000000) : K2 xs k = some (mAll mN k xs) := by
 unfold K2
 have hlen : xs.length ≤ wts wI xs := by unfold wts; omega
 have hws : wts wI xs = xs.length + wsum wI xs := rfl
 refine fY (L := R2 xs) wI (fun x => wD x.d ≤ 4000000) 1000000000000 (fun k x => mN_le k x) (fun go i k1 a hi ha hx hk hB => ?_) (fun go k1 a => ?_) xs (fun x hx => by
  have := U1 (wt := wI) hx
  have e : wI x = wD x.d := rfl
  omega) (by omega) k h0 h1
 ·show p8 xs go k1 (i : Int) a = _
  unfold p8
  have hwi : wI a[i] = wD a[i].d := rfl
  have hwd := qG a[i].d
  have hcc := nZ.2 a[i].d.items
  simp only [Int.toNat_natCast, List.set_set]
  rw [if_pos (by omega), n6 hi, f8, j2 (by omega), z9 hi, f8, j2 (by omega), z9 hi, f8, j2 (by omega), z9 hi, f8, j2 (by omega), dK (by omega), f8, z9 hi, f8, j2 (by omega), z9 hi, f8]
  try simp only [aP, eS, U7, eT]
  rw [jN RF a[i].d.items (k1 + 1 + 1 + 1 + 1 + 1) (by rw [RF_eq]; omega) (by omega) (by omega) (by omega), f8]
  refine (j2 (M9 mD a[i].d.items _)).trans ((j2 (by omega)).trans ?_)
  rfl
 ·show p8 xs go k1 _ a = _
  unfold p8
  rw [if_neg (by omega)]
theorem hInstrS_eq (xs : List PInstr) (k : Int) (hw : wts wI xs ≤ 4000000) (h0 : 0 ≤ k) (h1 : k + 6 * ((wts wI xs : Nat) : Int) ≤ 1000000000000) : V8 (mAll mN k xs).2 k = some (mAll mN k xs).1 := by
 unfold V8
 have hlen : xs.length ≤ wts wI xs := by unfold wts; omega
 have hws : wts wI xs = xs.length + wsum wI xs := rfl
 have hal : (mAll mN k xs).2.length = xs.length := M9 _ _ _
 refine lA (L := aA (mAll mN k xs).2) wI (fun x => wD x.d ≤ 4000000) 1000000000000 (mAll mN k xs).2 (fun k x => mN_le k x) (fun go i k1 hi x hx hS hk hB => ?_) (fun go k1 => ?_) xs (fun x hx => by
  have := U1 (wt := wI) hx
  have e : wI x = wD x.d := rfl
  omega) (by omega) k h0 h1 rfl
 ·show A6 (mAll mN k xs).2 go k1 (i : Int) = _
  unfold A6
  have hwi : wI x = wD x.d := rfl
  have hwd := qG x.d
  have hcc := nZ.2 x.d.items
  have hle := mD_le.2 x.d.items (k1 + 1 + 1 + 1 + 1 + 1)
  have hx : (mAll mN k xs).2[i] = PInstr.mk k1 (k1 + 1) (PD.mk (k1 + 1 + 1) (k1 + 1 + 1 + 1) (mtx (k1 + 1 + 1 + 1 + 1)) (mAll mD (k1 + 1 + 1 + 1 + 1 + 1) x.d.items).2) := hx
  rw [if_pos (by omega), n6 hi, hx]
  simp only [f8, aP, eS, U7, eT]
  rw [if_pos trivial, j2 (by omega), if_pos trivial, j2 (by omega), if_pos trivial, j2 (by omega), if_pos trivial, j2 (by omega), dK (by omega), f8]
  refine (if_pos rfl).trans ?_
  rw [j2 (by omega), jA RF x.d.items (k1 + 1 + 1 + 1 + 1 + 1) (by rw [RF_eq]; omega) (by omega) (by omega) (by omega), f8, if_neg (by omega), j2 (by omega)]
  rfl
 ·show A6 (mAll mN k xs).2 go k1 _ = _
  unfold A6
  rw [if_neg (by omega)]
theorem xF (xs : List PCode) (k : Int) (hw : wts wC xs ≤ 4000000) (h0 : 0 ≤ k) (h1 : k + 6 * ((wts wC xs : Nat) : Int) ≤ 1000000000000) : K1 xs k = some (mAll mC k xs) := by
 unfold K1
 have hlen : xs.length ≤ wts wC xs := by unfold wts; omega
 have hws : wts wC xs = xs.length + wsum wC xs := rfl
 refine fY (L := T9) wC (fun x => wC x ≤ 4000000) 1000000000000 (fun k x => mC_le k x) (fun go i k1 a hi ha hx hk hB => ?_) (fun go k1 a => ?_) xs (fun x hx => by
  have := U1 (wt := wC) hx
  omega) (by omega) k h0 h1
 ·show r8 go k1 (i : Int) a = _
  unfold r8
  have hwi : wC a[i] = wts wI a[i].instrs := rfl
  simp only [Int.toNat_natCast, List.set_set]
  rw [if_pos (by omega), n6 hi, f8, j2 (by omega), z9 hi, f8, j2 (by omega), z9 hi, f8, j2 (by omega), z9 hi, f8]
  try simp only [aP, eS, U7, eT]
  rw [mInstrS_eq a[i].instrs (k1 + 1 + 1 + 1) (by omega) (by omega) (by omega), f8]
  refine (j2 (M9 mN a[i].instrs _)).trans ((j2 (by omega)).trans ?_)
  rfl
 ·show r8 go k1 _ a = _
  unfold r8
  rw [if_neg (by omega)]
theorem hCodeS_eq (xs : List PCode) (k : Int) (hw : wts wC xs ≤ 4000000) (h0 : 0 ≤ k) (h1 : k + 6 * ((wts wC xs : Nat) : Int) ≤ 1000000000000) : Z8 (mAll mC k xs).2 k = some (mAll mC k xs).1 := by
 unfold Z8
 have hlen : xs.length ≤ wts wC xs := by unfold wts; omega
 have hws : wts wC xs = xs.length + wsum wC xs := rfl
 have hal : (mAll mC k xs).2.length = xs.length := M9 _ _ _
 refine lA (L := bM (mAll mC k xs).2) wC (fun x => wC x ≤ 4000000) 1000000000000 (mAll mC k xs).2 (fun k x => mC_le k x) (fun go i k1 hi x hx hS hk hB => ?_) (fun go k1 => ?_) xs (fun x hx => by
  have := U1 (wt := wC) hx
  omega) (by omega) k h0 h1 rfl
 ·show C4 (mAll mC k xs).2 go k1 (i : Int) = _
  unfold C4
  have hwi : wC x = wts wI x.instrs := rfl
  have hle := eQ mN_le x.instrs (k1 + 1 + 1 + 1)
  have hx : (mAll mC k xs).2[i] = PCode.mk k1 (k1 + 1) (k1 + 1 + 1) (mAll mN (k1 + 1 + 1 + 1) x.instrs).2 := hx
  rw [if_pos (by omega), n6 hi, hx]
  simp only [f8]
  rw [if_pos trivial, j2 (by omega), if_pos trivial, j2 (by omega), if_pos trivial, j2 (by omega), hInstrS_eq x.instrs (k1 + 1 + 1 + 1) (by omega) (by omega) (by omega), f8, if_neg (by omega), j2 (by omega)]
  rfl
 ·show C4 (mAll mC k xs).2 go k1 _ = _
  unfold C4
  rw [if_neg (by omega)]
def endM (m : PImage) : Int := (mAll mC 1 m.codes).1
theorem mImage_eq (m : PImage) (hw : wM m ≤ 4000000) : O4 m 1 = some (endM m, (mAll mC 1 m.codes).2) ∧ (mAll mC 1 m.codes).2.length = m.codes.length ∧ 0 ≤ endM m := by
 have hwm : wM m = wts wC m.codes := rfl
 have hle := eQ mC_le m.codes 1
 have hl : (mAll mC 1 m.codes).2.length = m.codes.length := M9 _ _ _
 refine ⟨?_, hl, by unfold endM; omega⟩
 unfold O4
 rw [xF m.codes 1 (by omega) (by omega) (by omega), f8]
 exact j2 hl
theorem hImage_eq (m : PImage) (n : Int) (hw : wM m ≤ 4000000) : T6 (PImage.mk (mAll mC 1 m.codes).2 n) 1 = some (endM m) := by
 have hwm : wM m = wts wC m.codes := rfl
 have hle := eQ mC_le m.codes 1
 unfold T6
 rw [hCodeS_eq m.codes 1 (by omega) (by omega) (by omega), f8, if_neg (by omega)]
 rfl
end Go.Abs
