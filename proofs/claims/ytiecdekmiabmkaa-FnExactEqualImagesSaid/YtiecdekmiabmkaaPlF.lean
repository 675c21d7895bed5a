/-
  Plain: the depths of the stack.
-/
import Derived.Test.YtiecdekmiabmkaaPlE
set_option linter.unusedVariables false
set_option linter.unusedSimpArgs false
namespace Go.Abs

def at0 (out : List Int) (k : Int) : Int := out.getD k.toNat 0
def putD (i len v k : Int) (out : List Int) : Option (List Int) :=
  if k ≤ i ∨ len ≤ k ∨ (0 ≤ at0 out k ∧ ¬ at0 out k = v) then none else some (out.set k.toNat v)
def nextD (i len v : Int) (x : PInstr) (out : List Int) : Option (List Int) :=
  if x.op = 14 ∨ x.op = 13 then (if v = 0 then some out else none)
  else if x.op = 15 then putD i len v x.a out
  else if x.op = 16 then (match putD i len v (i + 1) out with | some o => putD i len v x.a o | none => none)
  else putD i len v (i + 1) out
def stepD (m : PImage) (len i : Int) (x : PInstr) (out : List Int) : Option (List Int) :=
  if at0 out i < 0 then some out
  else if at0 out i < (effectOf m x).1 then none
  else if 500 < at0 out i - (effectOf m x).1 + (effectOf m x).2 then none
  else nextD i len (at0 out i - (effectOf m x).1 + (effectOf m x).2) x out
def runD (m : PImage) (len : Int) : Nat → List PInstr → List Int → Option (List Int)
  | _, [], out => some out
  | i, x :: r, out => match stepD m len i x out with
    | some o => runD m len (i + 1) r o
    | none => none
/-- The depths before each instruction of a code that is right and not empty. -/
def depthsOf (m : PImage) (k : Nat) : Option (List Int) :=
  runD m (m.codes.getD k default).instrs.length 0 (m.codes.getD k default).instrs ((List.replicate (m.codes.getD k default).instrs.length (-1)).set 0 0)

theorem putD_len {i len v k : Int} {out o : List Int} (h : putD i len v k out = some o) : o.length = out.length := by
  unfold putD at h
  split at h
  · cases h
  · simp only [Option.some.injEq] at h; subst h; simp
theorem nextD_len {i len v : Int} {x : PInstr} {out o : List Int} (h : nextD i len v x out = some o) : o.length = out.length := by
  unfold nextD at h
  split at h
  · split at h
    · simp only [Option.some.injEq] at h; subst h; rfl
    · cases h
  · split at h
    · exact putD_len h
    · split at h
      · split at h
        · rename_i o1 h1
          rw [putD_len h, putD_len h1]
        · cases h
      · exact putD_len h
theorem stepD_len {m : PImage} {len i : Int} {x : PInstr} {out o : List Int} (h : stepD m len i x out = some o) : o.length = out.length := by
  unfold stepD at h
  split at h
  · simp only [Option.some.injEq] at h; subst h; rfl
  · split at h
    · cases h
    · split at h
      · cases h
      · exact nextD_len h
/-- All depths lie between -1 and 500. -/
def small500 (out : List Int) : Prop := ∀ v ∈ out, -1 ≤ v ∧ v ≤ 500
theorem small500_at {out : List Int} (h : small500 out) (k : Int) : -1 ≤ at0 out k ∧ at0 out k ≤ 500 := by
  unfold at0
  by_cases hk : k.toNat < out.length
  · rw [List.getD, List.getElem?_eq_getElem hk]
    exact h _ (List.getElem_mem hk)
  · rw [List.getD, List.getElem?_eq_none (by omega)]
    simp
theorem small500_set {out : List Int} (h : small500 out) {v : Int} (hv : -1 ≤ v ∧ v ≤ 500) (k : Nat) : small500 (out.set k v) := fun x hx => by
  rcases List.mem_or_eq_of_mem_set hx with hx | rfl
  · exact h x hx
  · exact hv
theorem putD_small {i len v k : Int} {out o : List Int} (hs : small500 out) (hv : -1 ≤ v ∧ v ≤ 500) (h : putD i len v k out = some o) : small500 o := by
  unfold putD at h
  split at h
  · cases h
  · simp only [Option.some.injEq] at h; subst h; exact small500_set hs hv _
theorem nextD_small {i len v : Int} {x : PInstr} {out o : List Int} (hs : small500 out) (hv : -1 ≤ v ∧ v ≤ 500) (h : nextD i len v x out = some o) : small500 o := by
  unfold nextD at h
  split at h
  · split at h
    · simp only [Option.some.injEq] at h; subst h; exact hs
    · cases h
  · split at h
    · exact putD_small hs hv h
    · split at h
      · split at h
        · rename_i o1 h1
          exact putD_small (putD_small hs hv h1) hv h
        · cases h
      · exact putD_small hs hv h
theorem stepD_small {m : PImage} {len i : Int} {x : PInstr} {out o : List Int} (hs : small500 out) (he : 0 ≤ (effectOf m x).2) (h : stepD m len i x out = some o) : small500 o := by
  unfold stepD at h
  split at h
  · simp only [Option.some.injEq] at h; subst h; exact hs
  · split at h
    · cases h
    · split at h
      · cases h
      · exact nextD_small hs (by omega) h
theorem effect_pos (m : PImage) (x : PInstr) : 0 ≤ (effectOf m x).2 ∧ (effectOf m x).2 ≤ 1 := by
  unfold effectOf
  repeat' split
  all_goals (dsimp only; omega)
theorem runD_drop {m : PImage} {len : Int} {xs : List PInstr} {i : Nat} {out : List Int} (h : i < xs.length) : runD m len i (xs.drop i) out = match stepD m len i (xs.getD i default) out with | some o => runD m len (i + 1) (xs.drop (i + 1)) o | none => none := by
  rw [List.drop_eq_getElem_cons h]
  simp [runD, List.getD, List.getElem?_eq_getElem h]
/-- So many places set, the others not yet. -/
def fillM (n i : Nat) : List Int := List.replicate i (-1) ++ List.replicate (n - i) 0
theorem fillM_len {n i : Nat} (h : i ≤ n) : (fillM n i).length = n := by simp [fillM]; omega
theorem fillM_set {n i : Nat} (h : i < n) : (fillM n i).set i (-1) = fillM n (i + 1) := by
  unfold fillM
  rw [List.set_append_right _ _ (by simp)]
  have e : n - i = (n - (i + 1)) + 1 := by omega
  rw [List.length_replicate, Nat.sub_self, e, List.replicate_succ, List.set_cons_zero, List.replicate_succ', List.append_assoc]
  rfl
theorem fillM_all (n : Nat) : fillM n n = List.replicate n (-1) := by simp [fillM]
end Go.Abs
