/-
  Plain: lists of values; primitives.
-/
import Derived.Test.YtiecdekmiabmkaaPlA
set_option linter.unusedVariables false
set_option linter.unusedSimpArgs false
namespace Go.Abs

def valsWf (vs : List PVal) : Prop := vs.length ≤ 9223372036854775807 ∧ ∀ v ∈ vs, v.wf
def valsSmall (vs : List PVal) : Prop := vs.length ≤ 1048576 ∧ ∀ v ∈ vs, v.small

def szVGo : List PVal → Int → Int
  | [], n => n
  | p :: r, n => if szValue p n < 0 then -1 else szVGo r (szValue p n)
def szVals (ps : List PVal) (n : Int) : Int := if n - ps.length < 0 then -1 else szVGo ps (n - ps.length)

theorem szVGo_small : ∀ (ps : List PVal) (n : Int), ¬ szVGo ps n < 0 → 0 ≤ n → n ≤ 1048576 → ∀ p ∈ ps, p.small
  | [], _, _, _, _, p, hp => by simp at hp
  | q :: r, n, h, h0, hn, p, hp => by
    unfold szVGo at h
    split at h
    · omega
    · rename_i h1
      rcases List.mem_cons.1 hp with rfl | hp
      · exact szValue_small h1 hn
      · have := szValue_le (v := q) h0
        exact szVGo_small r _ h (by omega) (by omega) p hp
theorem szVGo_le : ∀ (ps : List PVal) (n : Int), 0 ≤ n → szVGo ps n ≤ n ∧ -1 ≤ szVGo ps n
  | [], n, h => by unfold szVGo; omega
  | q :: r, n, h => by
    unfold szVGo
    have := szValue_le (v := q) h
    split
    · omega
    · have := szVGo_le r (szValue q n) (by omega)
      omega
theorem szVals_small {ps : List PVal} {n : Int} (h : ¬ szVals ps n < 0) (h0 : 0 ≤ n) (hn : n ≤ 1048576) : valsSmall ps := by
  unfold szVals at h
  split at h
  · omega
  · exact ⟨by omega, szVGo_small ps _ h (by omega) (by omega)⟩
theorem szVals_le {ps : List PVal} {n : Int} (h0 : 0 ≤ n) : szVals ps n ≤ n ∧ -1 ≤ szVals ps n := by
  unfold szVals
  split
  · omega
  · have := szVGo_le ps (n - ps.length) (by omega)
    omega

/-! ### Primitives -/
def boolVal (b : Bool) : PVal := ⟨2, bif b then 1 else 0, []⟩
def falseVal (v : PVal) : Bool := decide (v.kind = 2) && decide (v.number = 0)
def tooLarge : List UInt8 := [110, 117, 109, 98, 101, 114, 32, 116, 111, 111, 32, 108, 97, 114, 103, 101]
def badArg : List UInt8 := [58, 32, 98, 97, 100, 32, 97, 114, 103, 117, 109, 101, 110, 116]
def notPure : List UInt8 := [110, 111, 116, 32, 97, 32, 112, 117, 114, 101, 32, 112, 114, 105, 109, 105, 116, 105, 118, 101]
def wrongNum : List UInt8 := [119, 114, 111, 110, 103, 32, 110, 117, 109, 98, 101, 114, 32, 111, 102, 32, 97, 114, 103, 117, 109, 101, 110, 116, 115]
def notValue : List UInt8 := [110, 111, 116, 32, 97, 32, 118, 97, 108, 117, 101]
def zeroVal : PVal := ⟨0, 0, []⟩
def numbers (p a b : Int) : PVal × List UInt8 :=
  if p = 3 then (boolVal (decide (a = b)), [])
  else if p = 4 then (boolVal (decide (a < b)), [])
  else
    let n := if p = 0 then a + b else if p = 1 then a - b else a * b
    if inside n (-999999999) 999999999 then (⟨3, n, []⟩, []) else (zeroVal, tooLarge)
def isPrim (p : Int) : Bool := inside p 0 13 && !decide (p = 5) && !decide (p = 13)
def arity (p : Int) : Int := if inside p 0 13 then (if p ≤ 5 ∨ p = 11 then 2 else 1) else -1
def badP (p : Int) : PVal × List UInt8 := (zeroVal, primTexts.getD p.toNat [] ++ badArg)
def applied (p : Int) (a b : PVal) (ps : List PPair) : PVal × List UInt8 :=
  if p = 8 then (boolVal (decide (a.kind = 1)), [])
  else if p = 9 then (boolVal (decide (a.kind = 7)), [])
  else if p = 10 then (boolVal (decide (a.kind = 3)), [])
  else if p = 12 then (boolVal (falseVal a), [])
  else if p = 11 then (boolVal (decide (a = b)), [])
  else if p = 6 then (if a.kind = 7 then ((ps.getD a.number.toNat default).h, []) else badP p)
  else if p = 7 then (if a.kind = 7 then ((ps.getD a.number.toNat default).t, []) else badP p)
  else if a.kind = 3 ∧ b.kind = 3 then numbers p a.number b.number else badP p

def applyPrim (p : Int) (as : List PVal) (ps : List PPair) : PVal × List UInt8 :=
  if isPrim p = true ∧ arePairs ps = true then
    if (as.length : Int) = arity p then
      if as.all (isVal ps.length) = true then applied p (as.getD 0 default) (as.getD 1 default) ps else (zeroVal, notValue)
    else (zeroVal, wrongNum)
  else (zeroVal, notPure)
theorem isPrim_range {p : Int} (h : isPrim p = true) : 0 ≤ p ∧ p ≤ 12 ∧ p ≠ 5 := by
  simp only [isPrim, inside, Bool.and_eq_true, decide_eq_true_eq, Bool.not_eq_true', decide_eq_false_iff_not] at h
  omega
theorem arity_range {p : Int} (h : isPrim p = true) : (p ≤ 5 ∨ p = 11) ∧ arity p = 2 ∨ ¬ (p ≤ 5 ∨ p = 11) ∧ arity p = 1 := by
  have h1 := isPrim_range h
  have e : inside p 0 13 = true := by simp only [inside, Bool.and_eq_true, decide_eq_true_eq]; omega
  unfold arity
  rw [e, if_pos rfl]
  by_cases h2 : p ≤ 5 ∨ p = 11
  · rw [if_pos h2]; exact .inl ⟨h2, rfl⟩
  · rw [if_neg h2]; exact .inr ⟨h2, rfl⟩
theorem prim_arity (p : Int) : isPrim p = (!decide (arity p < 0) && !decide (p = 5) && !decide (p = 13)) := by
  unfold isPrim arity
  by_cases h : inside p 0 13 = true
  · rw [if_pos h, h]
    have : decide ((if p ≤ 5 ∨ p = 11 then (2 : Int) else 1) < 0) = false := by
      rw [decide_eq_false_iff_not]; split <;> omega
    rw [this]; rfl
  · have h' : inside p 0 13 = false := by simpa using h
    rw [if_neg h, h']
    rfl
theorem isVal_num {n : Int} {v : PVal} (h : isVal n v = true) : (v.kind = 7 → 0 ≤ v.number ∧ v.number < n) ∧ (v.kind = 3 → -999999999 ≤ v.number ∧ v.number ≤ 999999999) := by
  refine ⟨fun hk => ?_, fun hk => ?_⟩ <;> simp [isVal, hk, inside] at h <;> omega
theorem isVal_getD {n : Int} {as : List PVal} (h : as.all (isVal n) = true) (i : Nat) : isVal n (as.getD i default) = true := by
  by_cases hi : i < as.length
  · exact List.all_eq_true.1 h _ (by simp only [List.getD, List.getElem?_eq_getElem hi, Option.getD_some]; exact List.getElem_mem hi)
  · rw [List.getD, List.getElem?_eq_none (by omega)]; rfl
theorem all_vdrop {f : PVal → Bool} {as : List PVal} {i : Nat} (h : i < as.length) : (as.drop i).all f = (f (as.getD i default) && (as.drop (i + 1)).all f) := by
  rw [List.drop_eq_getElem_cons h, List.all_cons]
  simp [List.getD, List.getElem?_eq_getElem h]

theorem mul_bound {a b : Int} (ha : -999999999 ≤ a ∧ a ≤ 999999999) (hb : -999999999 ≤ b ∧ b ≤ 999999999) : -999999998000000001 ≤ a * b ∧ a * b ≤ 999999998000000001 := by
  have h1 : (a * b).natAbs = a.natAbs * b.natAbs := Int.natAbs_mul a b
  have h2 : a.natAbs * b.natAbs ≤ 999999999 * 999999999 := Nat.mul_le_mul (by omega) (by omega)
  omega

theorem prim_iff {p : Int} (hp : 0 ≤ p ∧ p ≤ 13) (k : Nat) (hk : k < 14) : primTexts.getD p.toNat [] = primTexts.getD k [] ↔ p = (k : Int) := by
  have key : ∀ (i j : Fin 14), primTexts.getD i.1 [] = primTexts.getD j.1 [] ↔ i = j := by decide
  have := key ⟨p.toNat, by omega⟩ ⟨k, hk⟩
  rw [this, Fin.mk.injEq]
  omega
theorem prim_short {p : Int} (hp : 0 ≤ p ∧ p ≤ 13) : (primTexts.getD p.toNat []).length ≤ 7 := by
  have key : ∀ (i : Fin 14), (primTexts.getD i.1 []).length ≤ 7 := by decide
  exact key ⟨p.toNat, by omega⟩
theorem prim_row {p : Int} (h : 0 ≤ p ∧ p ≤ 13) : primRows[p.toNat]? = some [V.str (primTexts.getD p.toNat [])] := by
  unfold primRows
  rw [List.getElem?_map, List.getElem?_eq_getElem (by have : primTexts.length = 14 := rfl; omega)]
  simp [List.getD, show p.toNat < primTexts.length by have : primTexts.length = 14 := rfl; omega]

/-- What the machine hands back: a value and a text. -/
def PRes (r : PVal × List UInt8) : V := .tup [.agg r.1.enc, .str r.2]

end Go.Abs
