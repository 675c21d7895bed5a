/-
  Plain: objects: short names, variables all different.
-/
import Derived.Test.YtiecdekmiabmkaaPsL
set_option linter.unusedVariables false
set_option linter.unusedSimpArgs false
namespace Go.Abs

def isShort (s : List UInt8) : Bool := isSymbol s && decide (s.length ≤ 8)
theorem s_l7Name_eq (s : List UInt8) (h : SM s) : s_l7Name s = some (isShort s) := by
  unfold s_l7Name isShort
  rw [s_IsSymbol_eq s h, bnd_eq]
  by_cases h8 : s.length ≤ 8
  · rw [if_pos (by omega), decide_eq_true h8]; simp
  · rw [if_neg (by omega), decide_eq_false h8]; simp
theorem i_isShortName_eq (s : List UInt8) (h : SM s) : i_isShortName s = some (isShort s) := by
  unfold i_isShortName isShort
  rw [i_IsSymbol_eq s h, bnd_eq]
  cases isSymbol s
  · simp
  · simp only [if_true, Bool.true_and]
    exact congrArg some (decide_eq_decide.2 (by omega))
theorem s_HasScope_eq (l : List Int) (x : Int) (h : l.length ≤ 4611686018427387904) : s_HasScope l x = some (l.any fun y => decide (y = x)) := by
  unfold s_HasScope
  rw [itr_idx (L := s_HasScope_L1 l x) l.length (fun i => some ((l.drop i).any fun y => decide (y = x))) (by omega) (fun go i hi hgo => ?_) (fun go => ?_)]
  · rfl
  · show s_HasScope_L1b l x go (i : Int) = _
    unfold s_HasScope_L1b
    rw [if_pos (by omega), nth_lt hi, bnd_eq, chk_t (by omega), hgo, List.drop_eq_getElem_cons hi, List.any_cons]
    by_cases e : l[i] = x
    · rw [if_pos e, decide_eq_true e]; simp
    · rw [if_neg e, decide_eq_false e]; simp
  · show s_HasScope_L1b l x go (l.length : Int) = _
    unfold s_HasScope_L1b
    rw [if_neg (by omega), List.drop_length]; rfl
/-- Variables in range, each one not among those ahead of it. -/
def uniqs : List Int → List Int → Bool
  | _, [] => true
  | seen, x :: r => inside x 0 99999 && (!(seen.any fun y => decide (y = x)) && uniqs (seen ++ [x]) r)
theorem s_l5Unique_eq (l : List Int) (h : l.length ≤ 4611686018427387904) : s_l5Unique l = some (uniqs [] l) := by
  unfold s_l5Unique
  rw [itr_idx (L := s_l5Unique_L1 l) l.length (fun i => some (uniqs (l.take i) (l.drop i))) (by omega) (fun go i hi hgo => ?_) (fun go => ?_)]
  · rfl
  · show s_l5Unique_L1b l go (i : Int) = _
    unfold s_l5Unique_L1b
    rw [if_pos (by omega), nth_lt hi, bnd_eq, s_l1In_eq, bnd_eq, chk_t (by omega), Int.toNat_natCast, s_HasScope_eq _ _ (by simp; omega), bnd_eq, chk_t (by omega), hgo, List.drop_eq_getElem_cons hi, uniqs, ← List.take_append_getElem hi]
    cases inside l[i] 0 99999 <;> cases (l.take i).any (fun y => decide (y = l[i])) <;> simp
  · show s_l5Unique_L1b l go (l.length : Int) = _
    unfold s_l5Unique_L1b
    rw [if_neg (by omega), List.drop_length]; rfl
end Go.Abs
