
import Derived.Test.YtmgigglpdhoneaaGreatDoorLibT
import Derived.Test.YtmgigglpdhoneaaGreatDoorLibP
set_option linter.unusedVariables false
set_option linter.unusedSimpArgs false
namespace Go.Abs
open Go.Lib (itoa)
def wordT (w : List UInt8) (l : List Int) : List UInt8 := l.foldl (fun w n => w ++ ([32] ++ itoa n)) w
theorem isShort_len {s : List UInt8} (h : isShort s = true) : s.length ≤ 8 := by
 unfold isShort at h
 simp only [Bool.and_eq_true, decide_eq_true_eq] at h
 exact h.2
def numsIn (l : List Int) : Prop := ∀ n ∈ l, -999999999 ≤ n ∧ n ≤ 999999999
theorem uniqs_in : ∀ (l seen : List Int), uniqs seen l = true → numsIn l
 | [], _, _ => fun n h => by cases h
 | x :: r, seen, h => fun n hn => by
  rw [uniqs, Bool.and_eq_true, Bool.and_eq_true] at h
  rcases List.mem_cons.1 hn with rfl | hn
  ·have := h.1
   unfold inside at this
   simp only [Bool.and_eq_true, decide_eq_true_eq] at this
   omega
  ·exact uniqs_in r _ h.2.2 n hn
theorem aL (l : List Int) (w : List UInt8) (h : numsIn l) (i : Nat) : (wordT w (l.take i)).length ≤ w.length + 11 * (l.take i).length := by
 have key : ∀ (l : List Int) (w : List UInt8), numsIn l → (wordT w l).length ≤ w.length + 11 * l.length := by
  intro l
  induction l with
  | nil => intro w _; simp [wordT]
  | cons x r ih =>
   intro w h
   have h1 := ih (w ++ ([32] ++ itoa x)) fun n hn => h n (by simp [hn])
   have h2 := A9 x (h x (by simp))
   show (wordT (w ++ ([32] ++ itoa x)) r).length ≤ _
   simp only [List.length_append, List.length_cons, List.length_nil] at h1 ⊢
   omega
 exact key _ w fun n hn => h n (List.mem_of_mem_take hn)
theorem R3 (w : List UInt8) (l : List Int) (i : Nat) (h : i < l.length) : wordT w (l.take (i + 1)) = wordT w (l.take i) ++ ([32] ++ itoa l[i]) := by
 unfold wordT
 rw [List.take_add_one, List.getElem?_eq_getElem h, List.foldl_append]; rfl
theorem X9 {A R : Type} {L : (A × Int → Option R) → A × Int → Option R} (n : Nat) (f : Nat → A) (Y : Option R) (hn : n ≤ 9223372036854775807)
 (step : ∀ go (i : Nat), i < n → go (f (i + 1), (i : Int) + 1) = Y → L go (f i, (i : Int)) = Y) (fin : ∀ go, L go (f n, (n : Int)) = Y) : itr L LF (f 0, 0) = Y := by
 refine bI (L := L) (fun _ => Y) (fun v => ∃ i : Nat, i ≤ n ∧ v = (f i, (i : Int))) (fun v => n - v.2.toNat) (fun go v hv hgo => ?_) _ ⟨0, Nat.zero_le _, rfl⟩ (by show n - (0 : Int).toNat < _; have := LF_eq; omega)
 obtain ⟨i, hi, rfl⟩ := hv
 by_cases h : i < n
 ·exact step go i h (hgo (f (i + 1), (i : Int) + 1) ⟨i + 1, h, by simp⟩ (by show n - ((i : Int) + 1).toNat < n - (i : Int).toNat; omega))
 ·have : i = n := by omega
  subst this; exact fin go
theorem bF (w : List UInt8) (l : List Int) (h : numsIn l) (hl : l.length ≤ 1048576) (hw : w.length ≤ 100) : i_wordAndNumbers w l = some (wordT w l) := by
 unfold i_wordAndNumbers
 refine X9 (L := i_wordAndNumbers_L1 l) l.length (fun i => wordT w (l.take i)) (some (wordT w l)) (by omega) (fun go i hi hgo => ?_) (fun go => ?_)
 ·show i_wordAndNumbers_L1b l go _ (i : Int) = _
  unfold i_wordAndNumbers_L1b
  have hn := h _ (List.getElem_mem hi)
  have h1 := A9 _ hn
  have h2 := aL l w h i
  rw [List.length_take] at h2
  rw [if_pos (by omega), o6 hi, g8, w9 _ hn, g8, j5 (by simp; omega), j5 (by simp; omega), j5 (by omega), ← R3 w l i hi]
  exact hgo
 ·show i_wordAndNumbers_L1b l go _ _ = _
  unfold i_wordAndNumbers_L1b
  rw [if_neg (by omega)]
  show some (wordT w (l.take l.length)) = _
  rw [List.take_length]
def wdD : List UInt8 := [100, 101, 102, 105, 110, 101, 115]
def wdU : List UInt8 := [117, 115, 101, 115]
def headO (o : PObj) : LL := [([111, 98, 106, 101, 99, 116, 32] : List UInt8) ++ o.name, wordT wdD o.defines, wordT wdU o.uses]
theorem fW (o : PObj) (h1 : numsIn o.defines) (h2 : numsIn o.uses) (ho : o.small) : s_l10Head o = some (headO o) := by
 unfold s_l10Head
 have l0 := ho.1
 have l1 := ho.2.1
 have l2 := ho.2.2.1
 have hin : itr (s_l10Head_L2 o (wordT wdD o.defines)) LF (wdU, 0) = some (headO o) := by
  refine X9 (L := s_l10Head_L2 o (wordT wdD o.defines)) o.uses.length (fun i => wordT wdU (o.uses.take i)) (some (headO o)) (by omega) (fun go i hi hgo => ?_) (fun go => ?_)
  ·show s_l10Head_L2b o _ go _ (i : Int) = _
   unfold s_l10Head_L2b
   have hn := h2 _ (List.getElem_mem hi)
   have h3 := A9 _ hn
   have h4 := aL o.uses wdU h2 i
   rw [List.length_take] at h4
   have h5 : wdU.length = 4 := rfl
   rw [if_pos (by omega), o6 hi, g8, j5 (by simp; omega), u4 _ hn, g8, j5 (by simp; omega), j5 (by omega), List.append_assoc, ← R3 wdU o.uses i hi]
   exact hgo
  ·show s_l10Head_L2b o _ go _ _ = _
   unfold s_l10Head_L2b
   rw [if_neg (by omega), j5 (by simp; omega)]
   show some [_, _, wordT wdU (o.uses.take o.uses.length)] = _
   rw [List.take_length]; rfl
 refine X9 (L := s_l10Head_L1 o) o.defines.length (fun i => wordT wdD (o.defines.take i)) (some (headO o)) (by omega) (fun go i hi hgo => ?_) (fun go => ?_)
 ·show s_l10Head_L1b o go _ (i : Int) = _
  unfold s_l10Head_L1b
  have hn := h1 _ (List.getElem_mem hi)
  have h3 := A9 _ hn
  have h4 := aL o.defines wdD h1 i
  rw [List.length_take] at h4
  have h5 : wdD.length = 7 := rfl
  rw [if_pos (by omega), o6 hi, g8, j5 (by simp; omega), u4 _ hn, g8, j5 (by simp; omega), j5 (by omega), List.append_assoc, ← R3 wdD o.defines i hi]
  exact hgo
 ·show s_l10Head_L1b o go _ _ = _
  unfold s_l10Head_L1b
  rw [if_neg (by omega)]
  show itr (s_l10Head_L2 o (wordT wdD (o.defines.take o.defines.length))) LF (wdU, 0) = _
  rw [List.take_length]
  exact hin
theorem S6 : ∀ (cs : List PCode) (n : Int), cs.foldl (fun n c => n + (c.instrs.length : Int)) n = n + ((linesT cs).length : Int) - (cs.length : Int)
 | [], n => by simp [linesT]
 | c :: r, n => by
  have h := S6 r (n + (c.instrs.length : Int))
  have hc : (codeT c).length = 1 + c.instrs.length := by unfold codeT; simp; omega
  rw [List.foldl_cons, h, L8, List.length_append, hc, List.length_cons]
  omega
theorem linesT_few {m : PImage} {n : Int} (h : isImg m n = true) : (linesT m.codes).length ≤ 17500 := by
 unfold isImg inside at h
 simp only [Bool.and_eq_true, decide_eq_true_eq] at h
 have h1 := h.1.2
 have h2 := h.2.2.2.2.2.1
 have h3 := S6 m.codes 0
 unfold totalOf at h2
 omega
theorem FormatObject_eq (o : PObj) (hw : wO o ≤ 1048576) : ∃ ls, i_FormatObject o = some ls ∧ s_FormatObject o = some ls ∧ ls.length ≤ 1048576 := by
 have hs := dT hw
 have hsm : SM o.name := by have := hs.1; unfold SM; omega
 have hwi : wM o.image ≤ 1048576 := by unfold wO at hw; omega
 unfold i_FormatObject s_FormatObject
 rw [cP o hs hsm, g8, dN o hs hsm, g8]
 by_cases hi : isObj o = true
 ·have hi' := hi
  unfold isObj at hi'
  rw [Bool.and_eq_true, Bool.and_eq_true] at hi'
  have hu := uniqs_in _ _ hi'.2.1
  have h1 : numsIn o.defines := fun n hn => hu n (List.mem_append_left _ hn)
  have h2 : numsIn o.uses := fun n hn => hu n (List.mem_append_right _ hn)
  have hl : (linesT o.image.codes).length ≤ 17500 := linesT_few hi'.2.2
  have hk := isShort_len hi'.1
  have hc : wO o = o.name.length + o.defines.length + o.uses.length + wM o.image := rfl
  have l0 := hs.1
  rw [if_pos hi, if_pos hi, j5 (by simp; omega), bF _ _ h1 hs.2.1 (by simp), g8, bF _ _ h2 hs.2.2.1 (by simp), g8, X5 o.image hwi (bG hi'.2.2), g8, j5 (by simp; omega), fW o h1 h2 hs, g8, dO o.image hwi (bG hi'.2.2), g8, j5 (by unfold headO; simp; omega)]
  refine ⟨_, rfl, rfl, ?_⟩
  rw [List.length_append]
  simp; omega
 ·rw [if_neg hi, if_neg hi]
  exact ⟨_, rfl, rfl, by simp⟩
theorem bK (xs : List Int) (k : Int) (hn : xs.length ≤ 1048576) (h0 : 0 ≤ k) (hk : k ≤ 4000000) : ∃ a', w_markIntS xs k = some (k + (xs.length : Int), a') ∧ a'.length = xs.length := by
 unfold w_markIntS
 have := B0 (L := w_markIntS_L1) (fun r => r.1 = k + (xs.length : Int) ∧ r.2.length = xs.length) (fun v => (0 ≤ v.2.1 ∧ v.2.1 ≤ xs.length) ∧ v.1 = k + v.2.1 ∧ v.2.2.length = xs.length) (fun v => xs.length - v.2.1.toNat) (fun go v hv hgo => ?_) (k, 0, xs) ⟨⟨by show (0:Int) ≤ 0; omega, by show (0 : Int) ≤ _; omega⟩, by simp, rfl⟩ (by show xs.length - 0 < _; omega)
 ·obtain ⟨r, h1, h2, h3⟩ := this; exact ⟨r.2, by rw [h1, ← h2], h3⟩
 ·obtain ⟨q, j, a⟩ := v
  obtain ⟨⟨h1, h2⟩, h3, h4⟩ := hv
  simp only at h1 h2 h3 h4
  obtain ⟨i, rfl⟩ := Int.eq_ofNat_of_zero_le h1
  simp only [Int.ofNat_eq_natCast] at *
  show ∃ r, w_markIntS_L1b go q (i : Int) a = some r ∧ _
  unfold w_markIntS_L1b
  by_cases hi : i < xs.length
  ·rw [if_pos (by omega), o6 (by omega), g8, j5 (by omega), j5 (by omega), Int.toNat_natCast]
   exact hgo (q + 1, (i : Int) + 1, a.set i q) ⟨⟨by show (0 : Int) ≤ (i : Int) + 1; omega, by show (i : Int) + 1 ≤ _; omega⟩, by show q + 1 = k + ((i : Int) + 1); omega, by simpa using h4⟩ (by show xs.length - ((i : Int) + 1).toNat < xs.length - (i : Int).toNat; omega)
  ·rw [if_neg (by omega)]
   exact ⟨_, rfl, by show q = _; omega, h4⟩
theorem Y6 (o : PObj) (hw : wO o ≤ 1048576) : ∃ k' a b c, w_markObject o 1 = some (k', a, b, c) ∧ a.length = o.defines.length ∧ b.length = o.uses.length ∧ c.length = o.image.codes.length ∧ 0 ≤ k' := by
 have hs := dT hw
 have hc : wO o = o.name.length + o.defines.length + o.uses.length + wM o.image := rfl
 obtain ⟨a, e1, f1⟩ := bK o.defines 1 hs.2.1 (by omega) (by omega)
 obtain ⟨b, e2, f2⟩ := bK o.uses (1 + (o.defines.length : Int)) hs.2.2.1 (by omega) (by omega)
 obtain ⟨k', c, e3, f3, f4⟩ := aU o.image (1 + (o.defines.length : Int) + (o.uses.length : Int)) (by omega) (by omega) (by omega)
 unfold w_markObject
 rw [e1, g8, j5 f1, e2, g8, j5 f2, e3, g8, j5 f3]
 exact ⟨_, _, _, _, rfl, f1, f2, f3, by omega⟩
theorem D7 (o : PObj) (ho : o.ok) : w_FnExactFormatObject o = some true := by
 unfold w_FnExactFormatObject
 rw [szObject_eq o ho _ (by omega) (by omega), g8]
 by_cases h : szw (wO o) 1048576 < 0
 ·rw [if_pos h]
 have hw : wO o ≤ 1048576 := by have := (szw_pos h).2; omega
 have hs : o.small := dT hw
 obtain ⟨ls, e1, e2, e3⟩ := FormatObject_eq o hw
 obtain ⟨k', a, b, c, m1, m2, m3, m4, m5⟩ := Y6 o hw
 obtain ⟨a', n1, n2, n3⟩ := T7 ls e3
 rw [if_neg h]
 simp only [toObject_eq o hs, g8, e1, e2, aP ls e3, if_true, eqObject_eq o hs, m1, n1]
 rw [j5 m2, j5 m3, j5 m4, if_neg (by show ¬ k' < 0; omega), j5 n2, aQ a' (by omega) (by rw [n2]; exact n3), n2]
 simp only [g8, if_true]
 rw [if_neg (by omega), if_neg (by omega)]
end Go.Abs
