
import Derived.Test.YtmgigglpdhoneaaGreatDoorLibT
set_option linter.unusedVariables false
set_option linter.unusedSimpArgs false
namespace Go.Abs
open PD
theorem cnts_wDs (ds : List PD) : cnts ds ≤ wDs ds := kK.2 ds
theorem small_of {ds : List PD} (h : wDs ds ≤ 1048576) : ∀ x ∈ ds, x.small := fun x hx => eO (by have := bO hx; omega)
def finD (l : List PD) : List PD × Bool := if areD l = true then (l, true) else ([], false)
theorem finD_many {l : List PD} (h : 600 < cnts l) : finD l = ([], false) := by
 unfold finD
 rw [if_neg]
 intro e
 have := ((areD_iff l).1 e).2.1
 omega
theorem data_all (src : LB) (hl : src.length ≤ 15000) : ∀ (t M1 M2 p : Nat) (out : List PD), src.length - p < t → t + 1 ≤ M1 → t + 1 ≤ M2 → p ≤ src.length → out.length ≤ p → wDs out ≤ 8 * p →
 ∃ res, itr w8 M1 (PRdS.mk src (sk src p : Nat) false, out) = some res ∧ (cnts out ≤ 600 → itr (N0 src) M2 (PRdI.mk src (p : Int) ((cnts out : Nat) : Int), out) = some res) ∧ (600 < cnts out → res = ([], false)) ∧ wDs res.1 ≤ 8 * src.length ∧ (res.2 = false → res.1 = []) := by
 intro t
 induction t with
 | zero => intro _ _ p _ h; omega
 | succ t iht =>
  intro M1 M2 p out ht hM1 hM2 hp hol how
  obtain ⟨M1, rfl⟩ : ∃ m, M1 = m + 1 := ⟨M1 - 1, by omega⟩
  obtain ⟨M2, rfl⟩ : ∃ m, M2 = m + 1 := ⟨M2 - 1, by omega⟩
  have hk := sk_le hp
  have hsm := small_of (ds := out) (by omega)
  have hcw := cnts_wDs out
  rw [itr_s, itr_s]
  have hI : ∀ go (k : Int), N0 src go (PRdI.mk src (p : Int) k, out) = if ((sk src p : Nat) : Int) ≥ (src.length : Int) then some (finD out) else bnd (f9 RF (PRdI.mk src (sk src p : Nat) k)) fun x6 => if x6.2.1 = true then chk ((out.length + ([x6.1] : List PD).length) * 56 ≤ 140737488355328) <| go (x6.2.2, out ++ [x6.1]) else some ([], false) := fun go k => by
   show E7 src go (PRdI.mk src (p : Int) k) out = _
   unfold E7 finD
   rw [aU src (by omega) p hp k, f5]
   dsimp only
   by_cases h : ((sk src p : Nat) : Int) ≥ (src.length : Int)
   ·rw [if_pos h, if_pos h, nU out hsm (by omega), f5]
    split <;> rfl
   ·rw [if_neg h, if_neg h]
  have hS : w8 (itr w8 M1) (PRdS.mk src (sk src p : Nat) false, out) = if ((sk src p : Nat) : Int) < (src.length : Int) then bnd (n7 RF (PRdS.mk src (sk src p : Nat) false)) fun x7 => chk ((out.length + ([x7.1] : List PD).length) * 56 ≤ 140737488355328) <| bnd (G6 x7.2) fun x8 => itr w8 M1 (x8, out ++ [x7.1]) else some (finD out) := by
   show y5 (itr w8 M1) (PRdS.mk src (sk src p : Nat) false) out = _
   unfold y5 A5 finD
   dsimp only
   rw [if_neg (by simp)]
   by_cases h : ((sk src p : Nat) : Int) < (src.length : Int)
   ·rw [decide_eq_true h, if_pos rfl, if_pos h]
   ·rw [decide_eq_false h, if_neg (by simp), if_neg h, if_neg (by simp), oS out hsm (by omega), f5]
    split <;> rfl
  rw [hS, hI]
  generalize sk src p = p1 at hk
  by_cases h1 : p1 < src.length
  ·rw [if_pos (by omega), if_neg (by omega)]
   rcases rd_all src hl (src.length + 1) RF RF p1 (by omega) (by rw [RF_eq]; omega) (by rw [RF_eq]; omega) (by omega) with ⟨d, pos, e1, e2, e3, e4⟩ | ⟨d, q, e1, e2, e3, e4, e5⟩
   ·obtain ⟨pos', f1, f2, f3⟩ := kT src (by omega) pos e2 true
    rw [e1, f5, j3 (by simp only [List.length_cons, List.length_nil]; omega), f1, f5]
    obtain ⟨M1, rfl⟩ : ∃ m, M1 = m + 1 := ⟨M1 - 1, by omega⟩
    refine ⟨([], false), ?_, fun hc => ?_, fun _ => rfl, by show 0 ≤ _; omega, fun _ => rfl⟩
    ·rw [itr_s]
     show y5 (itr w8 M1) (PRdS.mk src pos' true) (out ++ [d]) = _
     unfold y5 A5
     dsimp only
     rw [if_pos rfl, if_neg (by simp), if_pos rfl]
    ·obtain ⟨d2, r2, g⟩ := e4 (cnts out) (by omega)
     have g' : f9 RF (PRdI.mk src (p1 : Int) ((cnts out : Nat) : Int)) = some (d2, false, r2) := g
     rw [g', f5, if_neg (by simp)]
   ·have hc : cnts out + (d.cnt + 1) = cnts (out ++ [d]) := by rw [W6, bR]
    have hw : wDs (out ++ [d]) = wDs out + (1 + wD d) := by rw [mT, gV]; rfl
    rw [e1, f5, j3 (by simp only [List.length_cons, List.length_nil]; omega), W1 src (by omega) q e3 false, f5]
    obtain ⟨res, g1, g2, g3, g4, g5⟩ := iht M1 M2 q (out ++ [d]) (by omega) (by omega) (by omega) e3 (by simp only [List.length_append, List.length_cons, List.length_nil]; omega) (by omega)
    refine ⟨res, g1, fun h6 => ?_, fun h6 => g3 (by omega), g4, g5⟩
    have g := e5 (cnts out) (by omega)
    by_cases h7 : cnts (out ++ [d]) ≤ 600
    ·rw [if_pos (by omega), hc] at g
     have g' : f9 RF (PRdI.mk src (p1 : Int) ((cnts out : Nat) : Int)) = some (d, true, PRdI.mk src (q : Int) ((cnts (out ++ [d]) : Nat) : Int)) := g
     rw [g', f5, if_pos rfl, j3 (by simp only [List.length_cons, List.length_nil]; omega)]
     exact g2 h7
    ·rw [if_neg (by omega)] at g
     obtain ⟨d2, r2, g⟩ := g
     have g' : f9 RF (PRdI.mk src (p1 : Int) ((cnts out : Nat) : Int)) = some (d2, false, r2) := g
     rw [g', f5, if_neg (by simp), g3 (by omega)]
  ·rw [if_neg (by omega), if_pos (by omega)]
   refine ⟨finD out, rfl, fun _ => rfl, fun h => finD_many h, ?_, ?_⟩
   ·unfold finD
    split
    ·show wDs out ≤ _; omega
    ·show 0 ≤ _; omega
   ·unfold finD
    split
    ·intro h; cases h
    ·intro _; rfl
theorem ParseData_eq (src : LB) : ∃ res, R7 src = some res ∧ Q5 src = some res ∧ wDs res.1 ≤ 120000 ∧ (res.2 = false → res.1 = []) := by
 unfold R7 Q5
 by_cases h : (src.length : Int) > 15000
 ·rw [if_pos h, if_pos h]
  exact ⟨_, rfl, rfl, by show 0 ≤ _; omega, fun _ => rfl⟩
 ·rw [if_neg h, if_neg h]
  obtain ⟨res, g1, g2, g3, g4, g5⟩ := data_all src (by omega) (src.length + 1) LF LF 0 [] (by omega) (by rw [LF_eq]; omega) (by rw [LF_eq]; omega) (by omega) (by simp) (by show 0 ≤ _; omega)
  have hs := W1 src (by omega) 0 (by omega) false
  have hs' : G6 (PRdS.mk src 0 false) = some (PRdS.mk src (sk src 0 : Nat) false) := hs
  rw [hs', f5]
  exact ⟨res, g1, g2 (by show 0 ≤ _; omega), by omega, g5⟩
theorem ops_all (s : LB) (w : LB × LB) (f : Bool) (hS : SM w.2) : ∀ (t M1 M2 op : Nat), 21 - op < t → t ≤ M1 → t ≤ M2 → 1 ≤ op →
 ∃ r, itr (K7 s w) M1 (op : Int) = some r ∧ itr (K2 s (w.1, w.2, f)) M2 (op : Int) = some r ∧ wD r.1.d ≤ 120000 := by
 intro t
 induction t with
 | zero => intro _ _ p h; omega
 | succ t iht =>
  intro M1 M2 op ht hM1 hM2 h1
  obtain ⟨M1, rfl⟩ : ∃ m, M1 = m + 1 := ⟨M1 - 1, by omega⟩
  obtain ⟨M2, rfl⟩ : ∃ m, M2 = m + 1 := ⟨M2 - 1, by omega⟩
  have hz : wD zD ≤ 120000 := by show 0 ≤ _; omega
  rw [itr_s, itr_s]
  show ∃ r, D8 s w (itr (K7 s w) M1) (op : Int) = some r ∧ D5 s (w.1, w.2, f) (itr (K2 s (w.1, w.2, f)) M2) (op : Int) = some r ∧ _
  unfold D8 D5
  dsimp only
  by_cases h20 : (op : Int) ≤ 20
  ·obtain ⟨n, n1, n2, _⟩ := OpName_eq (op : Int) (by omega)
   rw [if_pos h20, if_pos h20, n1, n2, f5, f5]
   by_cases hw : n = w.1
   ·rw [if_pos hw, if_pos hw]
    by_cases ho : (op : Int) = 1
    ·obtain ⟨res, d1, d2, d3, d4⟩ := ParseData_eq w.2
     rw [if_pos ho, if_pos ho, d1, d2, f5, f5]
     by_cases hlen : (res.1.length : Int) = 1
     ·have hne : res.1.length = 1 := by omega
      obtain ⟨x, hx⟩ : ∃ x, res.1 = [x] := List.length_eq_one_iff.1 hne
      have hx0 : nth res.1 0 = some x := by rw [hx]; rfl
      have hwx : wD x ≤ 120000 := by
       have : x ∈ res.1 := by rw [hx]; simp
       have := bO this
       omega
      obtain ⟨tx, t1, t2, _⟩ := FormatInstr_eq (PInstr.mk (op : Int) 0 x) (by show wD x ≤ _; omega)
      have hok : res.2 = true := by
       cases hb : res.2
       ·exact absurd hne (by rw [d4 hb]; simp)
       ·rfl
      rw [if_pos hlen, if_pos hlen, if_pos hok, hx0, f5, f5, t1, t2, f5]
      by_cases hq : tx = s
      ·rw [if_pos hq]; exact ⟨_, rfl, rfl, hwx⟩
      ·rw [if_neg hq]; exact ⟨_, rfl, rfl, hz⟩
     ·rw [if_neg hlen, if_neg hlen]
      refine ⟨_, rfl, ?_, hz⟩
      split <;> rfl
    ·rw [if_neg ho, if_neg ho, aC _ hS, Z7 _ hS, f5, f5]
     obtain ⟨tx, t1, t2, _⟩ := FormatInstr_eq (PInstr.mk (op : Int) (numS w.2).1 zD) (by show wD zD ≤ _; omega)
     have t1' : C5 (PInstr.mk (op : Int) (numS w.2).1 (PD.mk 0 0 ([] : LB) [])) = some tx := t1
     have t2' : C9 (PInstr.mk (op : Int) (numS w.2).1 (PD.mk 0 0 ([] : LB) [])) = some tx := t2
     rw [t1', t2', f5]
     by_cases hq : tx = s
     ·rw [if_pos hq]; exact ⟨_, rfl, rfl, hz⟩
     ·rw [if_neg hq]; exact ⟨_, rfl, rfl, hz⟩
   ·rw [if_neg hw, if_neg hw, j3 (by show _ ∧ _; omega), j3 (by show _ ∧ _; omega)]
    exact iht M1 M2 (op + 1) (by omega) (by omega) (by omega) (by omega)
  ·rw [if_neg h20, if_neg h20]
   exact ⟨_, rfl, rfl, hz⟩
theorem ParseInstr_eq (s : LB) (h : s.length ≤ 1048576) : ∃ r, N6 s = some r ∧ J3 s = some r ∧ wD r.1.d ≤ 120000 := by
 unfold N6 J3
 obtain ⟨f, hf⟩ := x_Cut_eq s h
 have hwl := words_len s
 rw [mN s h, hf, f5, f5]
 exact ops_all s (words s) f (by unfold SM; omega) 22 LF LF 1 (by omega) (by rw [LF_eq]; omega) (by rw [LF_eq]; omega) (by omega)
theorem W4 (s : LB) (_ : s.length ≤ 9223372036854775807) : D4 s = some true := by
 unfold D4
 by_cases h : (s.length : Int) > 1048576
 ·rw [if_pos h]
 rw [if_neg h]
 obtain ⟨r, e1, e2, e3⟩ := ParseInstr_eq s (by omega)
 have hs : r.1.d.small := eO (by omega)
 have hwd := fN r.1.d
 have hcc := kK.2 r.1.d.items
 have hle := mD_le.2 r.1.d.items 1
 have hm : S9 r.1 1 = some ((mAll mD 1 r.1.d.items).1, (mAll mD 1 r.1.d.items).2) := by
  unfold S9 Z3
  rw [dS RF r.1.d.items 1 (by rw [RF_eq]; omega) (by omega) (by omega) (by omega), f5, j3 (X3 _ _ _), f5, j3 (X3 _ _ _)]
 have hh : M9 (PInstr.mk r.1.op r.1.a (PD.mk r.1.d.kind r.1.d.number r.1.d.text (mAll mD 1 r.1.d.items).2)) 1 = some (mAll mD 1 r.1.d.items).1 := by
  unfold M9 Z2
  have k1 := dL RF r.1.d.items 1 (by rw [RF_eq]; omega) (by omega) (by omega) (by omega)
  have k2 : k7 RF (PD.mk r.1.d.kind r.1.d.number r.1.d.text (mAll mD 1 r.1.d.items).2).items 1 = some (mAll mD 1 r.1.d.items).1 := k1
  rw [k2, f5, if_neg (by omega), f5, if_neg (by omega)]
 rw [e1, e2, f5, f5, kM r.1 hs, f5, if_pos rfl, if_pos rfl, hm, f5]
 refine (j3 (X3 mD r.1.d.items 1)).trans ?_
 rw [hh, f5]
 refine (if_neg (by omega)).trans ((if_pos rfl).trans ?_)
 rw [f5, kM r.1 hs, f5, if_pos rfl, if_pos rfl, f5]
 exact (if_neg (by omega)).trans (if_pos rfl)
end Go.Abs
