/-
  Plain: instructions, codes, images.
-/
import Derived.Test.YtiecdekmiabmkaaPlD
set_option linter.unusedVariables false
set_option linter.unusedSimpArgs false
namespace Go.Abs

structure PInstr where
  op : Int
  a : Int
  d : PDat
  deriving Inhabited
structure PCode where
  params : Int
  slots : Int
  captures : Int
  instrs : List PInstr
  deriving Inhabited
structure PImage where
  codes : List PCode
  main : Int
  deriving Inhabited

def zeroDat : PDat := .mk 0 0 [] []
def PInstr.enc (l : Nat) (x : PInstr) : List V := [.int .i64 x.op, .int .i64 x.a, .int .i64 x.d.kind, .int .i64 x.d.number, .str x.d.text, .psl l 4 (x.d.items.map (PDat.enc l))]
def PCode.enc (l : Nat) (c : PCode) : List V := [.int .i64 c.params, .int .i64 c.slots, .int .i64 c.captures, .psl l 6 (c.instrs.map (PInstr.enc l))]
def PImage.enc (l : Nat) (m : PImage) : List V := [.psl l 4 (m.codes.map (PCode.enc l)), .int .i64 m.main]

theorem PInstr.rl (f : Nat → Nat) (l : Nat) (x : PInstr) : V.rlL f (x.enc l) = x.enc (f l) := by
  have h := PDat.rl_items f (l := l) x.d.items rfl
  simp only [PInstr.enc, V.rlL, h]
  simp only [V.rl]
theorem rlR_mapl {α : Type} {f : Nat → Nat} {e : Nat → α → List V} {l : Nat} (he : ∀ x, V.rlL f (e l x) = e (f l) x) (ds : List α) : V.rlR f (ds.map (e l)) = ds.map (e (f l)) := by
  induction ds with
  | nil => rfl
  | cons x r ih => simp only [List.map_cons, V.rlR, he, ih]
theorem rl_mapl {α : Type} {f : Nat → Nat} {e : Nat → α → List V} {l l' sz : Nat} (he : ∀ x, V.rlL f (e l x) = e (f l) x) (ds : List α) (h : f l = l') : V.rl f (.psl l sz (ds.map (e l))) = .psl l' sz (ds.map (e l')) := by
  subst h
  simp only [V.rl, rlR_mapl he]
theorem PCode.rl (f : Nat → Nat) (l : Nat) (c : PCode) : V.rlL f (c.enc l) = c.enc (f l) := by
  have h := rl_mapl (f := f) (sz := 6) (PInstr.rl f l) c.instrs rfl
  simp only [PCode.enc, V.rlL, h]
  simp only [V.rl]
theorem PImage.rl (f : Nat → Nat) (l : Nat) (m : PImage) : V.rlL f (m.enc l) = m.enc (f l) := by
  have h := rl_mapl (f := f) (sz := 4) (PCode.rl f l) m.codes rfl
  simp only [PImage.enc, V.rlL, h]
  simp only [V.rl]
theorem PInstr.rl_agg (f : Nat → Nat) {l l' : Nat} (x : PInstr) (h : f l = l') : V.rl f (.agg (x.enc l)) = .agg (x.enc l') := by subst h; simp only [V.rl, PInstr.rl]
theorem PCode.rl_agg (f : Nat → Nat) {l l' : Nat} (x : PCode) (h : f l = l') : V.rl f (.agg (x.enc l)) = .agg (x.enc l') := by subst h; simp only [V.rl, PCode.rl]
theorem PImage.rl_agg (f : Nat → Nat) {l l' : Nat} (x : PImage) (h : f l = l') : V.rl f (.agg (x.enc l)) = .agg (x.enc l') := by subst h; simp only [V.rl, PImage.rl]
theorem PInstr.row_ok {n l : Nat} (x : PInstr) (h : cut2 l = l) : RowOk n (x.enc l) := ⟨rfl, rfl, rfl, rfl, rfl, PDat.ok_items _ h, trivial⟩
theorem PCode.row_ok {n l : Nat} (c : PCode) (h : cut2 l = l) : RowOk n (c.enc l) := ⟨rfl, rfl, rfl, rl_mapl (PInstr.rl cut2 l) c.instrs h, trivial⟩
theorem PImage.row_ok {n l : Nat} (m : PImage) (h : cut2 l = l) : RowOk n (m.enc l) := ⟨rl_mapl (PCode.rl cut2 l) m.codes h, rfl, trivial⟩
theorem ok_instrs {n l : Nat} (xs : List PInstr) (h : cut2 l = l) : Ok n (.psl l 6 (xs.map (PInstr.enc l))) := rl_mapl (PInstr.rl cut2 l) xs h
theorem ok_codes {n l : Nat} (xs : List PCode) (h : cut2 l = l) : Ok n (.psl l 4 (xs.map (PCode.enc l))) := rl_mapl (PCode.rl cut2 l) xs h

/-- An instruction by itself is right. -/
def instrOK (x : PInstr) : Bool :=
  inside x.op 1 20 && (if x.op = 1 then decide (x.a = 0) && x.d.valid else x.d.eqb zeroDat && (inside x.a 0 4000 && (decide (x.a = 0) || !(decide (x.op = 14) || decide (x.op = 17)))))

/-- How many values an instruction takes and leaves. -/
def effectOf (m : PImage) (x : PInstr) : Int × Int :=
  if x.op = 1 ∨ x.op = 2 ∨ x.op = 3 ∨ x.op = 4 ∨ x.op = 5 ∨ x.op = 6 then (0, 1)
  else if x.op = 7 ∨ x.op = 8 then (1, 1)
  else if x.op = 11 ∨ x.op = 18 ∨ x.op = 19 ∨ x.op = 20 then ((m.codes.getD x.a.toNat default).captures, 1)
  else if x.op = 12 then (x.a + 1, 1)
  else if x.op = 13 then (x.a + 1, 0)
  else if x.op = 14 ∨ x.op = 17 ∨ x.op = 16 then (1, 0)
  else (0, 0)

/-- An instruction's operand is right in a code (s: as the reference says it). -/
def fitsOf (s : Bool) (m : PImage) (c : PCode) (k : Int) (x : PInstr) : Bool :=
  if x.op = 2 then decide (x.a < 14)
  else if x.op = 3 ∨ x.op = 5 ∨ x.op = 7 then decide (x.a < c.slots)
  else if x.op = 9 then decide (c.params ≤ x.a) && decide (x.a < c.slots)
  else if x.op = 10 then decide (x.a < c.params)
  else if x.op = 4 ∨ x.op = 6 ∨ x.op = 8 then decide (x.a < c.captures)
  else if x.op = 11 then decide (x.a < k) && (!s || decide ((m.codes.getD x.a.toNat default).params ≤ 8))
  else if x.op = 18 ∨ x.op = 20 then decide (x.a < k) && decide ((m.codes.getD x.a.toNat default).params = 0)
  else if x.op = 19 then decide (x.a < k) && decide ((m.codes.getD x.a.toNat default).params = 1)
  else if x.op = 12 ∨ x.op = 13 then decide (x.a ≤ 8)
  else true

def headOK (c : PCode) : Bool := inside c.params 0 8 && (inside c.slots c.params 500 && (inside c.captures 0 500 && inside c.instrs.length 1 4000))
def codeOKs (s : Bool) (m : PImage) (k : Nat) : Bool :=
  headOK (m.codes.getD k default) && (m.codes.getD k default).instrs.all fun x => instrOK x && fitsOf s m (m.codes.getD k default) k x

def codeOKc (s : Bool) (m : PImage) (c : PCode) (k : Int) : Bool := headOK c && c.instrs.all fun x => instrOK x && fitsOf s m c k x
theorem codeOK_c (s : Bool) (m : PImage) (k : Nat) : codeOKs s m k = codeOKc s m (m.codes.getD k default) k := rfl
theorem all_idrop {f : PInstr → Bool} {xs : List PInstr} {i : Nat} (h : i < xs.length) : (xs.drop i).all f = (f (xs.getD i default) && (xs.drop (i + 1)).all f) := by
  rw [List.drop_eq_getElem_cons h, List.all_cons]
  simp [List.getD, List.getElem?_eq_getElem h]
/-- All that is in an image is small. -/
def PCode.small (c : PCode) : Prop := c.instrs.length ≤ 1048576 ∧ ∀ x ∈ c.instrs, x.d.small
def PImage.small (m : PImage) : Prop := m.codes.length ≤ 1048576 ∧ ∀ c ∈ m.codes, c.small

theorem codeOK_params {s : Bool} {m : PImage} {k : Nat} (h : codeOKs s m k = true) : (m.codes.getD k default).params ≤ 8 := by
  unfold codeOKs headOK inside at h
  simp only [Bool.and_eq_true, decide_eq_true_eq] at h
  omega
theorem instrOK_a {x : PInstr} (h : instrOK x = true) : 0 ≤ x.a ∧ x.a ≤ 4000 ∧ 1 ≤ x.op ∧ x.op ≤ 20 := by
  unfold instrOK inside at h
  simp only [Bool.and_eq_true, decide_eq_true_eq] at h
  obtain ⟨h1, h2⟩ := h
  split at h2
  · simp only [Bool.and_eq_true, decide_eq_true_eq] at h2; omega
  · simp only [Bool.and_eq_true, decide_eq_true_eq] at h2; omega

/-- The program and the reference agree on a code whose codes ahead are right. -/
theorem codeOK_same {m : PImage} {k : Nat} (h : ∀ i, i < k → codeOKs false m i = true) : codeOKs true m k = codeOKs false m k := by
  unfold codeOKs
  congr 1
  refine List.all_congr rfl fun x => ?_
  by_cases hi : instrOK x = true
  · rw [hi, Bool.true_and, Bool.true_and]
    have ha := instrOK_a hi
    unfold fitsOf
    by_cases h11 : x.op = 11
    · by_cases hk : x.a < k
      · have := codeOK_params (h x.a.toNat (by omega))
        have e : decide ((m.codes.getD x.a.toNat default).params ≤ 8) = true := decide_eq_true this
        rw [e]
        simp [h11, hk]
      · simp [h11, hk]
    · simp [h11]
  · have hi' : instrOK x = false := by simpa using hi
    rw [hi', Bool.false_and, Bool.false_and]
end Go.Abs
