
import Derived.Test.YtmgigglpdhoneaaLibT
set_option linter.unusedVariables false
set_option linter.unusedSimpArgs false
namespace Go.Abs
open PCore
def atomV (d : PDat) : PVal := if d.kind = 1 then PVal.mk 4 0 d.text else if d.kind = 2 then PVal.mk 3 d.number [] else if d.kind = 3 then PVal.mk 2 d.number [] else if d.kind = 4 then PVal.mk 5 0 d.text else PVal.mk 1 0 []
theorem bn2 (n : Nat) (d : PDat) (h : d.items = []) : i_valueOf (n + 1) d [] = some (atomV d, []) := by
 show i_valueOf_b (i_valueOf n) d [] = _
 unfold i_valueOf_b atomV
 have hl : itr (i_valueOf_L1 (i_valueOf n) d) LF (((d.items.length : Int) - 1), [], (PVal.mk 1 0 ([] : List UInt8))) = some (PVal.mk 1 0 [], []) := by
  rw [h]
  refine bi9 (L := i_valueOf_L1 (i_valueOf n) d) (fun v => some (v.2.2, v.2.1)) (fun v => v.1 = -1) (fun _ => 0) (fun go v hv _ => ?_) _ (by rfl) (by omega)
  obtain ⟨i, ps, l⟩ := v
  have hv' : i = -1 := hv
  subst hv'
  rfl
 rw [ae2 (by rw [h]; exact bd0 (by simp)), hl]
 repeat' split
 all_goals rfl
theorem bn5 (n : Nat) (d : PDat) (h : d.items = []) : s_l8Quote (n + 1) d [] = some (atomV d, []) := by
 show s_l8Quote_b (s_l8Quote n) d [] = _
 unfold s_l8Quote_b atomV
 have hl : itr (s_l8Quote_L1 (s_l8Quote n) d) LF (((d.items.length : Int) - 1), [], (PVal.mk 1 0 ([] : List UInt8))) = some (PVal.mk 1 0 [], []) := by
  rw [h]
  refine bi9 (L := s_l8Quote_L1 (s_l8Quote n) d) (fun v => some (v.2.2, v.2.1)) (fun v => v.1 = -1) (fun _ => 0) (fun go v hv _ => ?_) _ (by rfl) (by omega)
  obtain ⟨i, ps, l⟩ := v
  have hv' : i = -1 := hv
  subst hv'
  rfl
 rw [ae2 (by rw [h]; exact bd0 (by simp)), hl]
 repeat' split
 all_goals rfl
def isAt (c : PCore) : Bool := decide (c.kind = 1) && decide ((c.datum.items.length : Int) = 0)
theorem i_isAtom_eq (c : PCore) : i_isAtom c = some (isAt c) := by
 unfold i_isAtom isAt
 by_cases h : c.kind = 1 <;> simp [h]
theorem s_l9Atom_eq (c : PCore) : s_l9Atom c = some (isAt c) := by
 unfold s_l9Atom isAt
 by_cases h : c.kind = 1 <;> simp [h]
def nums9 (a : PVal) : Prop := a.kind = 3 → -999999999 ≤ a.number ∧ a.number ≤ 999999999
def plainV (a : PVal) : Prop := nums9 a ∧ a.kind ≠ 7
def arT (p : Int) : Int := if p = 6 ∨ p = 7 ∨ p = 8 ∨ p = 9 ∨ p = 10 ∨ p = 12 ∨ p = 13 then 1 else 2
theorem cases14 {p : Int} (h : 0 ≤ p ∧ p ≤ 13) : p = 0 ∨ p = 1 ∨ p = 2 ∨ p = 3 ∨ p = 4 ∨ p = 5 ∨ p = 6 ∨ p = 7 ∨ p = 8 ∨ p = 9 ∨ p = 10 ∨ p = 11 ∨ p = 12 ∨ p = 13 := by omega
theorem i_ArityOf_eq {p : Int} (h : 0 ≤ p ∧ p ≤ 13) : i_ArityOf p = some (arT p) := by
 rcases cases14 h with rfl | rfl | rfl | rfl | rfl | rfl | rfl | rfl | rfl | rfl | rfl | rfl | rfl | rfl <;> rfl
theorem s_ArityOf_eq {p : Int} (h : 0 ≤ p ∧ p ≤ 13) : s_ArityOf p = some (arT p) := by
 rcases cases14 h with rfl | rfl | rfl | rfl | rfl | rfl | rfl | rfl | rfl | rfl | rfl | rfl | rfl | rfl <;> rfl
theorem i_isPure_eq {p : Int} (h : 0 ≤ p ∧ p ≤ 13) : i_isPure p = some (decide (p ≠ 5) && decide (p ≠ 13)) := by
 rcases cases14 h with rfl | rfl | rfl | rfl | rfl | rfl | rfl | rfl | rfl | rfl | rfl | rfl | rfl | rfl <;> rfl
def badT (x : List UInt8) : PVal × List UInt8 := (PVal.mk 0 0 [], x ++ [58, 32, 98, 97, 100, 32, 97, 114, 103, 117, 109, 101, 110, 116])
def boolV (b : Bool) : PVal := if b = true then PVal.mk 2 1 [] else PVal.mk 2 0 []
theorem aq4 (b : Bool) : i_booleanOf b = some (boolV b) := by cases b <;> rfl
theorem am9 (b : Bool) : s_l8Bool b = some (boolV b) := by cases b <;> rfl
theorem mul_in {a b : Int} (h1 : -999999999 ≤ a ∧ a ≤ 999999999) (h2 : -999999999 ≤ b ∧ b ≤ 999999999) : -9223372036854775808 ≤ a * b ∧ a * b ≤ 9223372036854775807 := by
 have e := Int.natAbs_mul a b
 have l : a.natAbs * b.natAbs ≤ 999999999 * 999999999 := Nat.mul_le_mul (by omega) (by omega)
 rw [← e] at l
 generalize a * b = z at l
 omega
theorem lim_eq (z : Int) (hz : I64 z) (v e : PVal × List UInt8) : (if I64 z then if z < -999999999 then some e else if 999999999 < z then some e else some v else none) = bnd (if I64 z then if -999999999 ≤ z ∧ z ≤ 999999999 then some v else some e else none) fun x => some (x.1, x.2) := by
 rw [if_pos hz, if_pos hz]
 by_cases h1 : z < -999999999
 ·rw [if_pos h1, if_neg (by omega)]; rfl
 ·rw [if_neg h1]
  by_cases h2 : 999999999 < z
  ·rw [if_pos h2, if_neg (by omega)]; rfl
  ·rw [if_neg h2, if_pos (by omega)]; rfl
theorem two_eq {p : Int} (h : p = 0 ∨ p = 1 ∨ p = 2 ∨ p = 3 ∨ p = 4) (a b : PVal) (ha : plainV a) (hb : plainV b) : i_applied p [a, b] [] = s_l8Apply p [a, b] [] := by
 have h1 := ha.1
 have h2 := hb.1
 unfold nums9 at h1 h2
 have n0 : nth [a, b] 0 = some a := rfl
 have n1 : nth [a, b] 1 = some b := rfl
 by_cases k1 : a.kind = 3
 ·by_cases k2 : b.kind = 3
  ·have h1 := h1 k1
   have h2 := h2 k2
   have hm := mul_in h1 h2
   rcases h with rfl | rfl | rfl | rfl | rfl
   all_goals
    unfold i_applied s_l8Apply i_PrimitiveNames s_PrimitiveNames
    simp only [ac0, n0, n1]
    simp [nth, i_applied_J1, s_l8Apply_J1, s_l8Numbers, k1, k2, aq4, am9, aj9, inside, chk]
   ·exact lim_eq _ (bd0 (by omega)) _ _
   ·exact lim_eq _ (bd0 (by omega)) _ _
   ·exact lim_eq _ (bd0 hm) _ _
  ·rcases h with rfl | rfl | rfl | rfl | rfl
   all_goals
    unfold i_applied s_l8Apply i_PrimitiveNames s_PrimitiveNames
    simp only [ac0, n0, n1]
    simp [nth, i_applied_J1, s_l8Apply_J1, k1, k2, chk]
 ·rcases h with rfl | rfl | rfl | rfl | rfl
  all_goals
   unfold i_applied s_l8Apply i_PrimitiveNames s_PrimitiveNames
   simp only [ac0, n0, n1]
   simp [nth, i_applied_J1, s_l8Apply_J1, k1, chk]
theorem eq_eq (a b : PVal) : i_applied 11 [a, b] [] = s_l8Apply 11 [a, b] [] := by
 have n0 : nth [a, b] 0 = some a := rfl
 have n1 : nth [a, b] 1 = some b := rfl
 unfold i_applied s_l8Apply i_PrimitiveNames s_PrimitiveNames
 simp only [ac0, n0, n1]
 simp [nth, s_l8Apply_J1, s_l8Apply_J2, aq4, am9, chk]
theorem i_isFalse_eq (x : PVal) : i_isFalse x = some (decide (x.kind = 2) && decide (x.number = 0)) := by
 unfold i_isFalse
 by_cases h : x.kind = 2 <;> simp [h]
theorem bd8 (x : PVal) : s_l8False x = some (decide (x.kind = 2) && decide (x.number = 0)) := by
 unfold s_l8False
 by_cases h : x.kind = 2 <;> simp [h]
theorem one_eq {p : Int} (h : p = 6 ∨ p = 7 ∨ p = 8 ∨ p = 9 ∨ p = 10 ∨ p = 12) (a : PVal) (ha : plainV a) : i_applied p [a] [] = s_l8Apply p [a] [] := by
 have n0 : nth [a] 0 = some a := rfl
 have k := ha.2
 rcases h with rfl | rfl | rfl | rfl | rfl | rfl
 all_goals
  unfold i_applied s_l8Apply i_PrimitiveNames s_PrimitiveNames
  simp only [ac0, n0]
  simp [nth, i_applied_J1, s_l8Apply_J1, s_l8Apply_J2, aq4, am9, i_isFalse_eq, bd8, k, chk]
theorem app_eq {p : Int} (h : 0 ≤ p ∧ p ≤ 13) (h5 : p ≠ 5) (h13 : p ≠ 13) (args : List PVal) (hl : (args.length : Int) = arT p) (ha : ∀ a ∈ args, plainV a) : i_applied p args [] = s_l8Apply p args [] := by
 unfold arT at hl
 by_cases h1 : p = 6 ∨ p = 7 ∨ p = 8 ∨ p = 9 ∨ p = 10 ∨ p = 12 ∨ p = 13
 ·rw [if_pos h1] at hl
  match args, hl, ha with
  | [a], _, ha => exact one_eq (by omega) a (ha a (by simp))
  | [], hl, _ => simp at hl
  | _ :: _ :: _, hl, _ => simp at hl; omega
 ·rw [if_neg h1] at hl
  match args, hl, ha with
  | [a, b], _, ha =>
   by_cases h11 : p = 11
   ·subst h11; exact eq_eq a b
   ·exact two_eq (by omega) a b (ha a (by simp)) (ha b (by simp))
  | [], hl, _ => simp at hl
  | [_], hl, _ => simp at hl
  | _ :: _ :: _ :: _, hl, _ => simp at hl; omega
theorem bs9 (z : Int) (hz : I64 z) (v e : PVal × List UInt8) : ∃ a b, (bnd (if I64 z then if -999999999 ≤ z ∧ z ≤ 999999999 then some v else some e else none) fun x => some (x.1, x.2)) = some (a, b) := by
 rw [if_pos hz]
 split <;> exact ⟨_, _, rfl⟩
theorem two_some {p : Int} (h : p = 0 ∨ p = 1 ∨ p = 2 ∨ p = 3 ∨ p = 4) (a b : PVal) (ha : plainV a) (hb : plainV b) : ∃ r, s_l8Apply p [a, b] [] = some r := by
 have h1 := ha.1
 have h2 := hb.1
 unfold nums9 at h1 h2
 have n0 : nth [a, b] 0 = some a := rfl
 have n1 : nth [a, b] 1 = some b := rfl
 by_cases k1 : a.kind = 3
 ·by_cases k2 : b.kind = 3
  ·have h1 := h1 k1
   have h2 := h2 k2
   have hm := mul_in h1 h2
   rcases h with rfl | rfl | rfl | rfl | rfl
   all_goals
    unfold s_l8Apply s_PrimitiveNames
    simp only [ac0, n0, n1]
    simp [nth, s_l8Apply_J1, s_l8Numbers, k1, k2, am9, aj9, inside, chk]
   ·exact bs9 _ (bd0 (by omega)) _ _
   ·exact bs9 _ (bd0 (by omega)) _ _
   ·exact bs9 _ (bd0 hm) _ _
  ·rcases h with rfl | rfl | rfl | rfl | rfl
   all_goals
    unfold s_l8Apply s_PrimitiveNames
    simp only [ac0, n0, n1]
    simp [nth, s_l8Apply_J1, k1, k2, chk]
 ·rcases h with rfl | rfl | rfl | rfl | rfl
  all_goals
   unfold s_l8Apply s_PrimitiveNames
   simp only [ac0, n0, n1]
   simp [nth, s_l8Apply_J1, k1, chk]
theorem eq_some (a b : PVal) : ∃ r, s_l8Apply 11 [a, b] [] = some r := by
 have n0 : nth [a, b] 0 = some a := rfl
 have n1 : nth [a, b] 1 = some b := rfl
 unfold s_l8Apply s_PrimitiveNames
 simp only [ac0, n0, n1]
 simp [nth, s_l8Apply_J1, s_l8Apply_J2, am9, chk]
theorem one_some {p : Int} (h : p = 6 ∨ p = 7 ∨ p = 8 ∨ p = 9 ∨ p = 10 ∨ p = 12) (a : PVal) (ha : plainV a) : ∃ r, s_l8Apply p [a] [] = some r := by
 have n0 : nth [a] 0 = some a := rfl
 have k := ha.2
 rcases h with rfl | rfl | rfl | rfl | rfl | rfl
 all_goals
  unfold s_l8Apply s_PrimitiveNames
  simp only [ac0, n0]
  simp [nth, s_l8Apply_J1, s_l8Apply_J2, am9, bd8, k, chk]
theorem app_some {p : Int} (h : 0 ≤ p ∧ p ≤ 13) (h5 : p ≠ 5) (h13 : p ≠ 13) (args : List PVal) (hl : (args.length : Int) = arT p) (ha : ∀ a ∈ args, plainV a) : ∃ r, s_l8Apply p args [] = some r := by
 unfold arT at hl
 by_cases h1 : p = 6 ∨ p = 7 ∨ p = 8 ∨ p = 9 ∨ p = 10 ∨ p = 12 ∨ p = 13
 ·rw [if_pos h1] at hl
  match args, hl, ha with
  | [a], _, ha => exact one_some (by omega) a (ha a (by simp))
  | [], hl, _ => simp at hl
  | _ :: _ :: _, hl, _ => simp at hl; omega
 ·rw [if_neg h1] at hl
  match args, hl, ha with
  | [a, b], _, ha =>
   by_cases h11 : p = 11
   ·subst h11; exact eq_some a b
   ·exact two_some (by omega) a b (ha a (by simp)) (ha b (by simp))
  | [], hl, _ => simp at hl
  | [_], hl, _ => simp at hl
  | _ :: _ :: _ :: _, hl, _ => simp at hl; omega
def failR : PCore × Bool := (PCore.mk 0 0 [] (PDat.mk 0 0 ([] : List UInt8) []) [], false)
theorem bn7 {L : (Int × List PVal → Option (PCore × Bool)) → Int × List PVal → Option (PCore × Bool)} (ks : List PCore) (hn : ks.length ≤ 1048576) (F : List PVal → Option (PCore × Bool)) (E : PDat → List PPair → Option (PVal × List PPair)) (A : PCore → Option Bool) (hA : ∀ x, A x = some (isAt x))
  (hE : ∀ x : PCore, isAt x = true → E x.datum [] = some (atomV x.datum, []))
  (hL : ∀ go (i : Int) o, L go (i, o) = if i < (ks.length : Int) then bnd (nth ks i) fun x => bnd (A x) fun b => if b = true then bnd (E x.datum []) fun y => chk ((o.length + ([y.1] : List PVal).length) * 32 ≤ 140737488355328) <| chk (I64 (i + 1)) <| go (i + 1, o ++ ([y.1] : List PVal)) else some failR else F o) :
  itr L LF (0, []) = if ks.all isAt = true then F (ks.map fun x => atomV x.datum) else some failR := by
 rw [al2 (L := L) ks.length (fun i o => o.length = i) (fun i o => if (ks.drop i).all isAt = true then F (o ++ (ks.drop i).map fun x => atomV x.datum) else some failR) (by omega) (fun go i o hi ho hgo => ?_) (fun go o ho => ?_) (by simp)]
 ·simp
 ·rw [hL, if_pos (by omega), af4 hi, ac0, hA, ac0, List.drop_eq_getElem_cons hi, List.all_cons, List.map_cons]
  cases h : isAt ks[i]
  ·simp
  ·rw [if_pos rfl, hE _ h, ac0, ae2 (by simp; omega), ae2 (by omega), hgo _ (by simp [ho]), Bool.true_and, List.append_assoc]; rfl
 ·rw [hL, if_neg (by omega), List.drop_length]; simp
def datR (n k : Int) : PCore × Bool := (PCore.mk 1 0 [] (PDat.mk k n ([] : List UInt8) []) [], true)
def resOf (r : PVal × List UInt8) : PCore × Bool := if r.2 = ([] : List UInt8) then (if r.1.kind = 1 then datR 0 0 else if r.1.kind = 2 then datR r.1.number 3 else if r.1.kind = 3 then datR r.1.number 2 else failR) else failR
def appV (p : Int) (args : List PVal) : PVal × List UInt8 := (s_l8Apply p args []).getD (PVal.mk 0 0 [], [])
def avs (ks : List PCore) : List PVal := ks.map fun x => atomV x.datum
def foldR (c : PCore) : PCore × Bool := if c.kind = 6 then (match c.kids with
 | [] => failR
 | f :: ks => if f.kind = 3 then (if (f.number ≠ 5 ∧ f.number ≠ 13) ∧ ((ks.length : Int) = arT f.number ∧ ks.all isAt = true) then resOf (appV f.number (avs ks)) else failR) else failR) else failR
theorem okAll_mem : ∀ {ks : List PCore} {x : PCore}, okAlls ks = true → x ∈ ks → okAll x = true
 | d :: r, x, h, hx => by
  unfold okAlls at h
  rw [Bool.and_eq_true] at h
  rcases List.mem_cons.1 hx with rfl | hx
  ·exact h.1
  ·exact okAll_mem h.2 hx
theorem bu8 {c : PCore} (h : okAll c = true) : shapeOK c = true := by
 rw [okAll_eq] at h
 simp only [Bool.and_eq_true] at h
 exact h.1.1
theorem plain_of {c : PCore} (h : okAll c = true) (ha : isAt c = true) : plainV (atomV c.datum) := by
 have hs := bu8 h
 unfold isAt at ha
 simp only [Bool.and_eq_true, decide_eq_true_eq] at ha
 unfold shapeOK at hs
 rw [if_pos ha.1] at hs
 simp only [Bool.and_eq_true] at hs
 have hd := hs.2.2.2.2
 unfold PDat.valid at hd
 simp only [Bool.and_eq_true] at hd
 have ho := hd.2.2
 rw [PDat.okAll_eq, Bool.and_eq_true] at ho
 have hn := ho.1
 unfold plainV nums9 atomV
 by_cases k1 : c.datum.kind = 1
 ·rw [if_pos k1]; exact ⟨fun h => by simp at h, by simp⟩
 ·by_cases k2 : c.datum.kind = 2
  ·rw [if_neg k1, if_pos k2]
   unfold PDat.nodeOK at hn
   rw [if_neg (by omega), if_neg k1, if_pos k2] at hn
   unfold inside at hn
   simp only [Bool.and_eq_true, decide_eq_true_eq] at hn
   exact ⟨fun _ => ⟨hn.1.1, hn.1.2⟩, by simp⟩
  ·rw [if_neg k1, if_neg k2]
   split
   ·exact ⟨fun h => by simp at h, by simp⟩
   ·split
    ·exact ⟨fun h => by simp at h, by simp⟩
    ·exact ⟨fun h => by simp at h, by simp⟩
theorem bg3 {ks : List PCore} (h : okAlls ks = true) (ha : ks.all isAt = true) : ∀ a ∈ avs ks, plainV a := fun a hx => by
 obtain ⟨x, hm, rfl⟩ := List.mem_map.1 hx
 exact plain_of (okAll_mem h hm) (List.all_eq_true.1 ha x hm)
theorem items_nil {x : PCore} (h : isAt x = true) : x.datum.items = [] := by
 unfold isAt at h
 simp only [Bool.and_eq_true, decide_eq_true_eq] at h
 exact List.length_eq_zero_iff.1 (by omega)
theorem RF_succ : RF = 18446744073709551615 + 1 := by rw [RF_eq]
theorem s_res_eq (r : PVal × List UInt8) : (bnd (s_l9Datum r.1) fun x9 => if r.2 = ([] : List UInt8) then (if x9.2 = true then some ((PCore.mk 1 0 [] x9.1 [] : PCore), true) else some failR) else some failR) = some (resOf r) := by
 unfold s_l9Datum resOf datR
 by_cases h : r.2 = [] <;> by_cases k1 : r.1.kind = 1 <;> by_cases k2 : r.1.kind = 2 <;> by_cases k3 : r.1.kind = 3 <;> simp [h, k1, k2, k3]
theorem i_res_eq (r : PVal × List UInt8) : (if r.2 = ([] : List UInt8) then (if r.1.kind = 1 then some ((PCore.mk 1 0 [] (PDat.mk 0 0 ([] : List UInt8) []) [] : PCore), true) else if r.1.kind = 2 then some (PCore.mk 1 0 [] (PDat.mk 3 r.1.number ([] : List UInt8) []) [], true) else if r.1.kind = 3 then some (PCore.mk 1 0 [] (PDat.mk 2 r.1.number ([] : List UInt8) []) [], true) else some failR) else some failR) = some (resOf r) := by
 unfold resOf datR
 by_cases h : r.2 = [] <;> by_cases k1 : r.1.kind = 1 <;> by_cases k2 : r.1.kind = 2 <;> by_cases k3 : r.1.kind = 3 <;> simp [h, k1, k2, k3]
theorem head_ok {c f : PCore} {ks : List PCore} (hv : okAll c = true) (hk : c.kids = f :: ks) (h3 : f.kind = 3) : (0 ≤ f.number ∧ f.number ≤ 13) ∧ okAlls ks = true := by
 rw [okAll_eq, Bool.and_eq_true] at hv
 have h := hv.2
 rw [hk] at h
 unfold okAlls at h
 rw [Bool.and_eq_true] at h
 refine ⟨?_, h.2⟩
 have hs := bu8 h.1
 unfold shapeOK at hs
 rw [if_neg (by omega), if_neg (by omega), if_pos h3] at hs
 unfold inside at hs
 simp only [Bool.and_eq_true, decide_eq_true_eq] at hs
 exact ⟨hs.2.2.2.2.1, hs.2.2.2.2.2⟩
theorem kids_ne {c : PCore} (hv : okAll c = true) (h6 : c.kind = 6) : ∃ f ks, c.kids = f :: ks := by
 have hs := bu8 hv
 unfold shapeOK at hs
 rw [if_neg (by omega), if_neg (by omega), if_neg (by omega), if_neg (by omega), if_neg (by omega), if_pos h6] at hs
 unfold inside at hs
 simp only [Bool.and_eq_true, decide_eq_true_eq] at hs
 cases hk : c.kids with
 | nil => rw [hk] at hs; have := hs.2.2.2.1; simp at this
 | cons f ks => exact ⟨f, ks, rfl⟩
theorem s_l9Fold_eq (c : PCore) (hc : c.nice) (hv : okAll c = true) : s_l9Fold c = some (foldR c) := by
 unfold s_l9Fold foldR
 by_cases h6 : c.kind = 6
 ·obtain ⟨f, ks, hk⟩ := kids_ne hv h6
  have hn := ((ag4 c).1 hc).2.2.1
  rw [hk] at hn
  simp only [List.length_cons] at hn
  have n0 : nth c.kids 0 = some f := by rw [hk]; rfl
  have hd : c.kids.drop (1 : Int).toNat = ks := by rw [hk]; rfl
  rw [if_pos h6, if_pos h6, n0, ac0, ac0]
  rw [hk]
  dsimp only
  by_cases h3 : f.kind = 3
  ·obtain ⟨hr, hks⟩ := head_ok hv hk h3
   rw [if_pos h3, if_pos h3, ae2 (by simp; omega)]
   rw [bn7 (L := s_l9Fold_L1 c f) ks (by omega) (fun args => if f.number = 5 then some failR else if f.number = 13 then some failR else bnd (s_ArityOf f.number) fun x7 => if (args.length : Int) = x7 then bnd (s_l8Apply f.number args []) fun x8 => bnd (s_l9Datum x8.1) fun x9 => if x8.2 = ([] : List UInt8) then (if x9.2 = true then some ((PCore.mk 1 0 [] x9.1 [] : PCore), true) else some failR) else some failR else some failR) (s_l8Quote RF) s_l9Atom s_l9Atom_eq (fun x hx => by rw [RF_succ]; exact bn5 _ _ (items_nil hx)) (fun go i o => by
    show s_l9Fold_L1b c f go i o = _
    unfold s_l9Fold_L1b
    rw [hd]; rfl)]
   rw [s_ArityOf_eq hr]
   by_cases ha : ks.all isAt = true
   ·rw [if_pos ha]
    by_cases h5 : f.number = 5
    ·rw [if_pos h5, if_neg (by simp [h5])]
    ·by_cases h13 : f.number = 13
     ·rw [if_neg h5, if_pos h13, if_neg (by simp [h13])]
     ·rw [if_neg h5, if_neg h13, ac0]
      have hla : (avs ks).length = ks.length := by simp [avs]
      by_cases hl : (ks.length : Int) = arT f.number
      ·rw [if_pos (by rw [List.length_map]; exact hl), if_pos ⟨⟨h5, h13⟩, hl, ha⟩]
       obtain ⟨r, e⟩ := app_some hr h5 h13 (avs ks) (by rw [hla]; exact hl) (bg3 hks ha)
       have e2 : appV f.number (avs ks) = r := by unfold appV; rw [e]; rfl
       rw [e2]
       refine (congrArg (bnd · _) e).trans ?_
       rw [ac0]
       exact s_res_eq r
      ·rw [if_neg (by rw [List.length_map]; exact hl), if_neg (fun h => hl h.2.1)]
   ·rw [if_neg ha, if_neg (fun h => ha h.2.2)]
  ·rw [if_neg h3, if_neg h3]; rfl
 ·rw [if_neg h6, if_neg h6]; rfl
theorem i_folded_eq (c : PCore) (hc : c.nice) (hv : okAll c = true) : i_folded c = some (foldR c) := by
 unfold i_folded foldR
 by_cases h6 : c.kind = 6
 ·obtain ⟨f, ks, hk⟩ := kids_ne hv h6
  have hn := ((ag4 c).1 hc).2.2.1
  rw [hk] at hn
  simp only [List.length_cons] at hn
  have n0 : nth c.kids 0 = some f := by rw [hk]; rfl
  have hd : c.kids.drop (1 : Int).toNat = ks := by rw [hk]; rfl
  have hlen : c.kids.length = ks.length + 1 := by rw [hk]; rfl
  rw [if_pos h6, if_pos h6, n0, ac0, ac0, hlen]
  rw [hk]
  dsimp only
  by_cases h3 : f.kind = 3
  ·obtain ⟨hr, hks⟩ := head_ok hv hk h3
   rw [if_pos h3, if_pos h3, i_isPure_eq hr, ac0, ae2 (by omega), i_ArityOf_eq hr, ac0, ae2 (by omega)]
   rw [bn7 (L := i_folded_L1 c f) ks (by omega) (fun args => bnd (i_applied f.number args []) fun x9 => if x9.2 = ([] : List UInt8) then (if x9.1.kind = 1 then some ((PCore.mk 1 0 [] (PDat.mk 0 0 ([] : List UInt8) []) [] : PCore), true) else if x9.1.kind = 2 then some (PCore.mk 1 0 [] (PDat.mk 3 x9.1.number ([] : List UInt8) []) [], true) else if x9.1.kind = 3 then some (PCore.mk 1 0 [] (PDat.mk 2 x9.1.number ([] : List UInt8) []) [], true) else some failR) else some failR) (i_valueOf RF) i_isAtom i_isAtom_eq (fun x hx => by rw [RF_succ]; exact bn2 _ _ (items_nil hx)) (fun go i o => by
    show i_folded_L1b c f go i o = _
    unfold i_folded_L1b
    rw [hd]; rfl)]
   by_cases h5 : f.number = 5
   ·rw [if_neg (by simp [h5]), if_neg (by simp [h5])]; rfl
   ·by_cases h13 : f.number = 13
    ·rw [if_neg (by simp [h13]), if_neg (by simp [h13])]; rfl
    ·rw [if_pos (by simp [h5, h13])]
     have hla : (avs ks).length = ks.length := by simp [avs]
     by_cases hl : (ks.length : Int) = arT f.number
     ·rw [if_pos (by omega)]
      by_cases ha : ks.all isAt = true
      ·rw [if_pos ha, if_pos ⟨⟨h5, h13⟩, hl, ha⟩]
       obtain ⟨r, e⟩ := app_some hr h5 h13 (avs ks) (by rw [hla]; exact hl) (bg3 hks ha)
       have e2 : appV f.number (avs ks) = r := by unfold appV; rw [e]; rfl
       rw [e2]
       refine (congrArg (bnd · _) ((app_eq hr h5 h13 (avs ks) (by rw [hla]; exact hl) (bg3 hks ha)).trans e)).trans ?_
       rw [ac0]
       exact i_res_eq r
      ·rw [if_neg ha, if_neg (fun h => ha h.2.2)]
     ·rw [if_neg (by omega), if_neg (fun h => hl h.2.1)]; rfl
  ·rw [if_neg h3, if_neg h3]; rfl
 ·rw [if_neg h6, if_neg h6]; rfl
def foldOf (c : PCore) : PCore × Bool := if c.valid = true then foldR c else failR
theorem valid_ok {c : PCore} (h : c.valid = true) : okAll c = true := by
 unfold PCore.valid tree at h
 simp only [Bool.and_eq_true] at h
 exact h.1.2.2
theorem av9 (c : PCore) (hc : c.nice) (hb : wK c ≤ 1048576) : i_FoldApplication c = some (foldOf c) := by
 unfold i_FoldApplication foldOf
 rw [bn1 c hc hb, ac0]
 by_cases h : c.valid = true
 ·rw [if_pos h, if_pos h, i_folded_eq c hc (valid_ok h), ac0]
 ·rw [if_neg h, if_neg h]; rfl
theorem aw0 (c : PCore) (hc : c.nice) (hb : wK c ≤ 1048576) : s_FoldApplication c = some (foldOf c) := by
 unfold s_FoldApplication foldOf
 rw [s_l5Valid_eq c hc hb, ac0]
 by_cases h : c.valid = true
 ·rw [if_pos h, if_pos h, s_l9Fold_eq c hc (valid_ok h), ac0]
 ·rw [if_neg h, if_neg h]; rfl
def bare (c : PCore) : Prop := c.nice ∧ c.cnt = 0 ∧ wK c = 0
theorem bare_dat (k n a b : Int) : bare (PCore.mk a b [] (PDat.mk k n [] []) []) := ⟨(ag4 _).2 ⟨by simp [PCore.params], by simp [PCore.datum, wD, wDs], by simp [PCore.kids], trivial⟩, rfl, rfl⟩
theorem foldOf_bare (c : PCore) : bare (foldOf c).1 := by
 have hf : bare failR.1 := bare_dat _ _ _ _
 unfold foldOf foldR resOf datR
 repeat' split
 all_goals first | exact hf | exact bare_dat _ _ _ _
set_option maxRecDepth 20000 in
theorem an8 (c : PCore) (hc : c.wf) : w_FnExactFoldApplication c = some true := by
 unfold w_FnExactFoldApplication
 rw [(w_szK_eq RF).1 c hc _ (by omega) (by omega) (by rw [RF_eq]; omega), ac0]
 by_cases h : szw (wK c) 1048576 < 0
 ·rw [if_pos h]
 have f := szw_pos h
 rw [if_neg h]
 have wc : wK c ≤ 1048576 := by omega
 have nc : c.nice := nice_wK.1 c wc
 have cc := ax8.1 c
 have hb := foldOf_bare c
 have es := aw0 c nc wc
 have ei := av9 c nc wc
 generalize foldOf c = r at hb es ei
 obtain ⟨nr, cr, wr⟩ := hb
 have m1 := bj3 c 1 nc (by omega) (by omega) (by omega)
 have l1 := endK_le 1 c
 have m3 := bj3 r.1 1 nr (by omega) (by omega) (by omega)
 have l3 := endK_le 1 r.1
 have h1 := heldCore_eq r.1.kind r.1.number r.1.datum.kind r.1.datum.number r.1.datum.text r.1 1 nr (by omega) (by omega) (by omega)
 rw [toCore_eq nc (by omega), ac0, es, ac0, ac0, ei, ac0, bh8 nr (by omega), ac0, if_pos rfl, if_pos rfl, ac0, bh8 nc (by omega), ac0, if_pos rfl, m1, ac0]
 refine (ae2 (mP_len _ _)).trans ((ae2 (mQ_len _ _)).trans ((ae2 (mR_len _ _)).trans ?_))
 refine (if_neg (by show ¬ endK 1 c < 0; omega)).trans ?_
 rw [ac0, if_pos rfl, if_pos rfl, m3, ac0]
 refine (ae2 (mP_len _ _)).trans ((ae2 (mQ_len _ _)).trans ((ae2 (mR_len _ _)).trans ?_))
 rw [h1]
 simp only [ac0]
 rw [if_neg (by omega), if_pos trivial, ei, ac0, bh8 nr (by omega), ac0, if_pos rfl, if_pos rfl, if_neg (by omega), if_pos trivial]
end Go.Abs
