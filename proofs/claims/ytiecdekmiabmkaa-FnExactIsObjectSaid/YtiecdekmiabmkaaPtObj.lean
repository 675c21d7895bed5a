/-
  Plain: the law of IsObject.
-/
import Derived.Test.YtiecdekmiabmkaaPsO
import Derived.Test.YtiecdekmiabmkaaGpE
set_option linter.unusedVariables false
set_option linter.unusedSimpArgs false
namespace Go.Abs

theorem mget_mput (m : List (Int × Int)) (k v j : Int) : mget (mput m k v) j = if j = k then v else mget m j := by
  unfold mget
  induction m with
  | nil =>
    unfold mput mlook
    by_cases h : j = k
    · simp [h]
    · simp [h, mlook]
  | cons p r ih =>
    unfold mput
    by_cases h : k = p.1
    · rw [if_pos h]
      unfold mlook
      by_cases h2 : j = k
      · rw [if_pos h2, if_pos h2]; rfl
      · rw [if_neg h2, if_neg h2, if_neg (by omega)]
    · rw [if_neg h]
      unfold mlook
      by_cases h2 : j = p.1
      · rw [if_pos h2, if_pos h2, if_neg (by omega)]
      · rw [if_neg h2, if_neg h2, ih]
/-- The map knows what has been seen. -/
def Knows (seen : List Int) (m : List (Int × Int)) : Prop := ∀ k, decide (mget m k = 1) = seen.any fun y => decide (y = k)
theorem knows_nil : Knows [] [] := fun k => by simp [mget, mlook]
theorem knows_put {seen : List Int} {m : List (Int × Int)} (h : Knows seen m) (x : Int) : Knows (seen ++ [x]) (mput m x 1) := fun k => by
  rw [mget_mput, List.any_append]
  simp only [List.any_cons, List.any_nil, Bool.or_false]
  by_cases e : k = x
  · subst e; simp
  · rw [if_neg e, h k, decide_eq_false (fun h => e h.symm)]; simp
theorem uniqs_append : ∀ (a b seen : List Int), uniqs seen (a ++ b) = (uniqs seen a && uniqs (seen ++ a) b)
  | [], b, seen => by simp [uniqs]
  | x :: a, b, seen => by
    simp only [List.cons_append, uniqs]
    rw [uniqs_append a b (seen ++ [x])]
    simp [Bool.and_assoc]
theorem diff_inner (x2 : Int) (go4 : Int × List (Int × Int) → Option Bool) (l : List Int) (hl : l.length ≤ 4611686018427387904) (hx : 0 ≤ x2 ∧ x2 ≤ 100) (y : Option Bool) (seen : List Int) (hgo : ∀ m, Knows (seen ++ l) m → go4 (x2 + 1, m) = y) {m : List (Int × Int)} (hm : Knows seen m) :
    itr (i_differentVariables_L2 x2 go4 l) LF (0, m) = if uniqs seen l = true then y else some false := by
  have := itr_idxA (L := i_differentVariables_L2 x2 go4 l) l.length (fun i m => Knows (seen ++ l.take i) m) (fun i _ => if uniqs (seen ++ l.take i) (l.drop i) = true then y else some false) (by omega) (a := m) (fun go i m hi hI hgo => ?_) (fun go m hI => ?_) (by simpa using hm)
  · simpa using this
  · show i_differentVariables_L2b x2 go4 l go (i : Int) m = _
    unfold i_differentVariables_L2b
    rw [if_pos (by omega), nth_lt hi, bnd_eq, List.drop_eq_getElem_cons hi, uniqs]
    have hk := hI l[i]
    have hI' : Knows (seen ++ l.take (i + 1)) (mput m l[i] 1) := by
      rw [← List.take_append_getElem hi, ← List.append_assoc]; exact knows_put hI _
    have hin : inside l[i] 0 99999 = (!decide (l[i] < 0) && !decide (l[i] > 99999)) := by
      unfold inside
      rw [Bool.eq_iff_iff]; simp; try omega
    rw [chk_t (by omega), hgo _ hI', ← hk, hin, ← List.take_append_getElem hi, ← List.append_assoc]
    by_cases h1 : l[i] < 0
    · rw [if_pos h1, decide_eq_true h1]; simp
    · rw [if_neg h1, decide_eq_false h1]
      by_cases h2 : l[i] > 99999
      · rw [if_pos h2, decide_eq_true h2]; simp
      · rw [if_neg h2, decide_eq_false h2]
        by_cases h3 : mget m l[i] = 1
        · rw [if_pos h3, decide_eq_true h3]; simp
        · rw [if_neg h3, decide_eq_false h3]; simp
  · show i_differentVariables_L2b x2 go4 l go (l.length : Int) m = _
    unfold i_differentVariables_L2b
    rw [if_neg (by omega), List.drop_length, chk_t (by omega), uniqs, if_pos rfl]
    rw [List.take_length] at hI
    exact hgo _ hI
theorem i_differentVariables_two (a b : List Int) (ha : a.length ≤ 1048576) (hb : b.length ≤ 1048576) : i_differentVariables [a, b] = some (uniqs [] (a ++ b)) := by
  unfold i_differentVariables
  have h3 : ∀ m, ∀ n, itr (i_differentVariables_L1 [a, b]) (n + 1) (2, m) = some true := fun m n => by
    show i_differentVariables_L1b [a, b] (itr (i_differentVariables_L1 [a, b]) n) 2 m = _
    unfold i_differentVariables_L1b
    rw [if_neg (by simp)]
  have h2 : ∀ m, Knows a m → ∀ n, itr (i_differentVariables_L1 [a, b]) (n + 2) (1, m) = some (uniqs a b) := fun m hm n => by
    show i_differentVariables_L1b [a, b] (itr (i_differentVariables_L1 [a, b]) (n + 1)) 1 m = _
    unfold i_differentVariables_L1b
    rw [if_pos (by simp), show nth [a, b] 1 = some b from rfl, bnd_eq]
    rw [diff_inner 1 _ b (by omega) (by omega) (some true) a (fun m' _ => h3 m' n) hm]
    cases uniqs a b <;> rfl
  obtain ⟨k, hk⟩ : ∃ k, LF = k + 3 := ⟨LF - 3, by have := LF_eq; omega⟩
  rw [hk]
  show i_differentVariables_L1b [a, b] (itr (i_differentVariables_L1 [a, b]) (k + 2)) 0 [] = _
  unfold i_differentVariables_L1b
  rw [if_pos (by simp), nth_0, bnd_eq]
  rw [diff_inner 0 _ a (by omega) (by omega) (some (uniqs a b)) [] (fun m' hm' => h2 m' (by simpa using hm') _) knows_nil, uniqs_append, List.nil_append]
  cases uniqs [] a <;> simp

/-! ### Objects -/
def PObj.ok (o : PObj) : Prop := o.name.length ≤ 9223372036854775807 ∧ (o.defines.length ≤ 9223372036854775807 ∧ ∀ n ∈ o.defines, IntKind.i64.min ≤ n ∧ n ≤ IntKind.i64.max) ∧ (o.uses.length ≤ 9223372036854775807 ∧ ∀ n ∈ o.uses, IntKind.i64.min ≤ n ∧ n ≤ IntKind.i64.max) ∧ o.image.ok
def wO (o : PObj) : Nat := o.name.length + o.defines.length + o.uses.length + wM o.image
def PObj.small (o : PObj) : Prop := o.name.length ≤ 1048576 ∧ o.defines.length ≤ 1048576 ∧ o.uses.length ≤ 1048576 ∧ o.image.small
theorem szIntS_eq (xs : List Int) (n : Int) (hx : xs.length ≤ 9223372036854775807) (h0 : 0 ≤ n) (h1 : n ≤ 1048576) : w_szIntS xs n = some (szw xs.length n) := by
  unfold w_szIntS szw
  rw [chk_t (by omega)]
  split <;> rfl
theorem szObject_eq (o : PObj) (h : o.ok) (n : Int) (h0 : 0 ≤ n) (h1 : n ≤ 1048576) : w_szObject o n = some (szw (wO o) n) := by
  have hw : szw (wO o) n = szw (wM o.image) (szw o.uses.length (szw o.defines.length (szw o.name.length n))) := by rw [szw_szw, szw_szw, szw_szw]; unfold wO; congr 1; omega
  unfold w_szObject
  have := h.1
  rw [chk_t (by omega), hw]
  by_cases e : n - (o.name.length : Int) < 0
  · have e1 : szw o.name.length n = -1 := by unfold szw; rw [if_pos e]
    rw [if_pos e, e1, szw_neg (w := o.defines.length) (by unfold szw; rw [if_pos (by omega)]; omega), szw_neg (w := o.uses.length) (by unfold szw; rw [if_pos (by omega)]; omega), szw_neg (w := wM o.image) (by unfold szw; rw [if_pos (by omega)]; omega)]
  · have e1 : szw o.name.length n = n - o.name.length := by unfold szw; rw [if_neg e]
    rw [if_neg e, e1, szIntS_eq _ _ h.2.1.1 (by omega) (by omega), bnd_eq]
    by_cases f : szw o.defines.length (n - o.name.length) < 0
    · rw [if_pos f, szw_neg f, szw_neg (w := o.uses.length) (by unfold szw; rw [if_pos (by omega)]; omega), szw_neg (w := wM o.image) (by unfold szw; rw [if_pos (by omega)]; omega)]
    · have f1 := szw_pos f
      rw [if_neg f, szIntS_eq _ _ h.2.2.1.1 (by omega) (by omega), bnd_eq]
      by_cases g : szw o.uses.length (szw o.defines.length (n - o.name.length)) < 0
      · rw [if_pos g, szw_neg g, szw_neg (w := wM o.image) (by unfold szw; rw [if_pos (by omega)]; omega)]
      · have g1 := szw_pos g
        rw [if_neg g, szImage_eq _ h.2.2.2 _ (by omega) (by omega), bnd_eq, szw_if]
theorem small_wO {o : PObj} (h : wO o ≤ 1048576) : o.small := by
  unfold wO at h
  exact ⟨by omega, by omega, by omega, small_wM (by omega)⟩
theorem toIntS_eq (xs : List Int) (h : xs.length ≤ 1048576) : w_toIntS xs = some xs := by
  unfold w_toIntS
  exact toS_eq' (L := w_toIntS_L1 xs) (0 : Int) xs 8 (by omega) h (fun go i out => rfl)
theorem eqIntS_refl (xs : List Int) (h : xs.length ≤ 1048576) : w_eqIntS xs xs = some true := by
  unfold w_eqIntS
  exact eqS_refl' (L := w_eqIntS_L1 xs xs) xs h (fun go i => rfl)
theorem toObject_eq (o : PObj) (h : o.small) : w_toObject o = some o := by
  unfold w_toObject
  rw [toIntS_eq _ h.2.1, bnd_eq, toIntS_eq _ h.2.2.1, bnd_eq, toImage_eq _ h.2.2.2, bnd_eq]
theorem eqObject_eq (o : PObj) (h : o.small) : w_eqObject o o = some true := by
  unfold w_eqObject
  rw [if_pos rfl, eqIntS_refl _ h.2.1, bnd_eq, if_pos rfl, eqIntS_refl _ h.2.2.1, bnd_eq, if_pos rfl, eqImage_eq _ h.2.2.2, bnd_eq, if_pos rfl]
theorem l2Ints_eq (xs : List Int) (h : xs.length ≤ 1048576) : s_l2Ints xs = some xs := by
  unfold s_l2Ints
  rw [chk_t (by simp; omega)]; rfl
def isObj (o : PObj) : Bool := isShort o.name && (uniqs [] (o.defines ++ o.uses) && isImg o.image ((o.defines.length : Int) + o.uses.length))
theorem s_IsObject_eq (o : PObj) (h : o.small) (hs : SM o.name) : s_IsObject o = some (isObj o) := by
  unfold s_IsObject isObj
  rw [l2Ints_eq _ h.2.1, bnd_eq, chk_t (by have := h.2.1; have := h.2.2.1; omega), s_l7Name_eq _ hs, bnd_eq, s_l5Unique_eq _ (by have := h.2.1; have := h.2.2.1; simp; omega), s_IsImage_eq _ h.2.2.2]
  simp only [bnd_eq, List.length_append, Int.natCast_add]
  cases isShort o.name <;> cases uniqs [] (o.defines ++ o.uses) <;> simp
theorem i_IsObject_eq (o : PObj) (h : o.small) (hs : SM o.name) : i_IsObject o = some (isObj o) := by
  unfold i_IsObject isObj
  rw [i_isShortName_eq _ hs, bnd_eq, i_differentVariables_two _ _ h.2.1 h.2.2.1, chk_t (by have := h.2.1; have := h.2.2.1; omega), i_IsImage_eq _ h.2.2.2]
  simp only [bnd_eq]
  cases isShort o.name <;> cases uniqs [] (o.defines ++ o.uses) <;> simp
theorem w_FnExactIsObject_true (o : PObj) (ho : o.ok) : w_FnExactIsObject o = some true := by
  unfold w_FnExactIsObject
  rw [szObject_eq o ho _ (by omega) (by omega), bnd_eq]
  by_cases h : szw (wO o) 1048576 < 0
  · rw [if_pos h]
  · have hs : o.small := small_wO (by have := (szw_pos h).2; omega)
    have hsm : SM o.name := by have := hs.1; unfold SM; omega
    rw [if_neg h]
    simp only [toObject_eq o hs, bnd_eq, s_IsObject_eq o hs hsm, i_IsObject_eq o hs hsm, eqObject_eq o hs]
    simp
end Go.Abs
