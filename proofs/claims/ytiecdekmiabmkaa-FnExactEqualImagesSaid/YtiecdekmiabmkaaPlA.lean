/-
  Plain: letters, names of symbols, values, pairs.
-/
import Derived.Test.YtiecdekmiabmkaaAbsM
set_option linter.unusedVariables false
set_option linter.unusedSimpArgs false
namespace Go.Abs

def isDigit (b : UInt8) : Bool := decide (48 ≤ (b.toNat : Int)) && decide ((b.toNat : Int) ≤ 57)
def markOdd : List Int := [33, 63, 42, 60, 62, 61, 47, 43, 45, 46, 95]
def markTab : List UInt8 := [33, 63, 42, 60, 62, 61, 47, 43, 45, 46, 95]
def markB (b : UInt8) : Bool := (decide (97 ≤ (b.toNat : Int)) && decide ((b.toNat : Int) ≤ 122)) || isDigit b || markOdd.contains (b.toNat : Int)
theorem markTab_any (n : Int) : (markTab.any fun c => decide (((c.toNat : Nat) : Int) = n)) = markOdd.contains n := by
  simp [markTab, markOdd, eq_comm]
def headBad (l : List UInt8) : Bool := decide ((l.length : Int) < 1) || decide ((l.length : Int) > 16) || isDigit (l.getD 0 0) ||
  (decide (((l.getD 0 0).toNat : Int) = 45) && decide ((l.length : Int) > 1) && isDigit (l.getD 1 0))
def isSymbol (l : List UInt8) : Bool := !headBad l && l.all markB
def inside (a b c : Int) : Bool := decide (b ≤ a) && decide (a ≤ c)
def badChar (b : UInt8) : Bool := decide ((b.toNat : Int) < 32) || decide ((b.toNat : Int) > 126) || decide ((b.toNat : Int) = 34)
def isText (l : List UInt8) : Bool := decide ((l.length : Int) ≤ 20) && l.all fun b => !badChar b

theorem drop_cons {α : Type} {d : α} {l : List α} {i : Nat} (h : i < l.length) : l.drop i = l.getD i d :: l.drop (i + 1) := by
  rw [List.drop_eq_getElem_cons h]; simp [List.getD, List.getElem?_eq_getElem h]

theorem all_drop {α : Type} {p : α → Bool} {d : α} {l : List α} {i : Nat} (h : i < l.length) : (l.drop i).all p = (p (l.getD i d) && (l.drop (i + 1)).all p) := by
  rw [drop_cons (d := d) h, List.all_cons]

theorem all_end {α : Type} {p : α → Bool} {l : List α} {i : Nat} (h : l.length ≤ i) : (l.drop i).all p = true := by
  rw [List.drop_eq_nil_of_le h]; rfl

theorem any_drop {α : Type} {p : α → Bool} {d : α} {l : List α} {i : Nat} (h : i < l.length) : (l.drop i).any p = (p (l.getD i d) || (l.drop (i + 1)).any p) := by
  rw [drop_cons (d := d) h, List.any_cons]

theorem any_end {α : Type} {p : α → Bool} {l : List α} {i : Nat} (h : l.length ≤ i) : (l.drop i).any p = false := by
  rw [List.drop_eq_nil_of_le h]; rfl

/-- The primitives' names. -/
def primTexts : List (List UInt8) := [[43], [45], [42], [61], [60], [99, 111, 110, 115], [99, 97, 114], [99, 100, 114], [110, 117, 108, 108, 63], [112, 97, 105, 114, 63], [110, 117, 109, 98, 101, 114, 63], [101, 113, 63], [110, 111, 116], [100, 105, 115, 112, 108, 97, 121]]
def primRows : List (List V) := primTexts.map fun t => [.str t]
theorem primRows_len : primRows.length = 14 := rfl

/-- A value. -/
structure PVal where
  kind : Int
  number : Int
  text : List UInt8
  deriving DecidableEq, Inhabited
def PVal.enc (v : PVal) : List V := [.int .i64 v.kind, .int .i64 v.number, .str v.text]
structure PPair where
  h : PVal
  t : PVal
  deriving DecidableEq, Inhabited
def PPair.enc (p : PPair) : List V := [.int .i64 p.h.kind, .int .i64 p.h.number, .str p.h.text, .int .i64 p.t.kind, .int .i64 p.t.number, .str p.t.text]

theorem rl_pval (f : Nat → Nat) (v : PVal) : V.rlL f v.enc = v.enc := rfl
theorem rl_ppair (f : Nat → Nat) (p : PPair) : V.rlL f p.enc = p.enc := rfl

def textOK (l : List UInt8) : Prop := l.length ≤ 9223372036854775807
def PVal.wf (v : PVal) : Prop := (IntKind.i64.min ≤ v.kind ∧ v.kind ≤ IntKind.i64.max) ∧ (IntKind.i64.min ≤ v.number ∧ v.number ≤ IntKind.i64.max) ∧ textOK v.text
def PPair.wf (p : PPair) : Prop := p.h.wf ∧ p.t.wf
def pairsWf (ps : List PPair) : Prop := ps.length ≤ 9223372036854775807 ∧ ∀ p ∈ ps, p.wf

/-! ### Size -/
def szValue (v : PVal) (n : Int) : Int := if n - v.text.length < 0 then -1 else n - v.text.length
def szPair (p : PPair) (n : Int) : Int := if szValue p.h n < 0 then -1 else if szValue p.t (szValue p.h n) < 0 then -1 else szValue p.t (szValue p.h n)
def szGo : List PPair → Int → Int
  | [], n => n
  | p :: r, n => if szPair p n < 0 then -1 else szGo r (szPair p n)
def szPairs (ps : List PPair) (n : Int) : Int := if n - ps.length < 0 then -1 else szGo ps (n - ps.length)

def PVal.small (v : PVal) : Prop := v.text.length ≤ 1048576
def pairsSmall (ps : List PPair) : Prop := ps.length ≤ 1048576 ∧ ∀ p ∈ ps, p.h.small ∧ p.t.small

theorem szValue_le {v : PVal} {n : Int} (h0 : 0 ≤ n) : szValue v n ≤ n ∧ -1 ≤ szValue v n := by
  unfold szValue; split <;> omega
theorem szValue_small {v : PVal} {n : Int} (h : ¬ szValue v n < 0) (hn : n ≤ 1048576) : v.small := by
  unfold szValue at h; unfold PVal.small; split at h <;> omega
theorem szPair_le {p : PPair} {n : Int} (h0 : 0 ≤ n) : szPair p n ≤ n ∧ -1 ≤ szPair p n := by
  unfold szPair
  have a := szValue_le (v := p.h) h0
  split
  · omega
  · have b := szValue_le (v := p.t) (n := szValue p.h n) (by omega)
    split <;> omega
theorem szPair_small {p : PPair} {n : Int} (h : ¬ szPair p n < 0) (h0 : 0 ≤ n) (hn : n ≤ 1048576) : p.h.small ∧ p.t.small := by
  unfold szPair at h
  have a := szValue_le (v := p.h) h0
  split at h
  · omega
  · rename_i h1
    split at h
    · omega
    · rename_i h2
      exact ⟨szValue_small h1 hn, szValue_small h2 (by omega)⟩
theorem szGo_small : ∀ (ps : List PPair) (n : Int), ¬ szGo ps n < 0 → 0 ≤ n → n ≤ 1048576 → ∀ p ∈ ps, p.h.small ∧ p.t.small
  | [], _, _, _, _, p, hp => by simp at hp
  | q :: r, n, h, h0, hn, p, hp => by
    unfold szGo at h
    split at h
    · omega
    · rename_i h1
      rcases List.mem_cons.1 hp with rfl | hp
      · exact szPair_small h1 h0 hn
      · have := szPair_le (p := q) h0
        exact szGo_small r _ h (by omega) (by omega) p hp
theorem szGo_le : ∀ (ps : List PPair) (n : Int), 0 ≤ n → szGo ps n ≤ n ∧ -1 ≤ szGo ps n
  | [], n, h => by unfold szGo; omega
  | q :: r, n, h => by
    unfold szGo
    have := szPair_le (p := q) h
    split
    · omega
    · have := szGo_le r (szPair q n) (by omega)
      omega
theorem szPairs_small {ps : List PPair} {n : Int} (h : ¬ szPairs ps n < 0) (h0 : 0 ≤ n) (hn : n ≤ 1048576) : pairsSmall ps := by
  unfold szPairs at h
  split at h
  · omega
  · exact ⟨by omega, szGo_small ps _ h (by omega) (by omega)⟩
theorem szPairs_le {ps : List PPair} {n : Int} (h0 : 0 ≤ n) : szPairs ps n ≤ n ∧ -1 ≤ szPairs ps n := by
  unfold szPairs
  split
  · omega
  · have := szGo_le ps (n - ps.length) (by omega)
    omega

/-! ### What is a value -/
def isVal (n : Int) (v : PVal) : Bool :=
  if v.kind = 0 ∨ v.kind = 1 then decide (v.number = 0) && decide (v.text = [])
  else if v.kind = 2 then inside v.number 0 1 && decide (v.text = [])
  else if v.kind = 3 then inside v.number (-999999999) 999999999 && decide (v.text = [])
  else if v.kind = 4 then decide (v.number = 0) && isSymbol v.text
  else if v.kind = 5 then decide (v.number = 0) && isText v.text
  else if v.kind = 6 then inside v.number 0 13 && decide (v.text = [])
  else if v.kind = 7 then inside v.number 0 (n - 1) && decide (v.text = [])
  else if v.kind = 8 ∨ v.kind = 9 then inside v.number 0 2000 && decide (v.text = [])
  else false

def arePairsFrom : Int → List PPair → Bool
  | _, [] => true
  | i, p :: r => isVal i p.h && isVal i p.t && arePairsFrom (i + 1) r
def arePairs (ps : List PPair) : Bool := decide ((ps.length : Int) ≤ 2000) && arePairsFrom 0 ps

end Go.Abs
