
import Derived.Test.YtmgigglpdhoneaaGreatDoorLibS
import Derived.Test.YtmgigglpdhoneaaGreatDoorLibP
set_option linter.unusedVariables false
set_option linter.unusedSimpArgs false
namespace Go.Abs
def isShort (s : List UInt8) : Bool := isSymbol s && decide (s.length ≤ 8)
theorem s_l7Name_eq (s : List UInt8) (h : SM s) : s_l7Name s = some (isShort s) := by
 unfold s_l7Name isShort
 rw [O6 s h, g8]
 by_cases h8 : s.length ≤ 8
 ·rw [if_pos (by omega), decide_eq_true h8]; simp
 ·rw [if_neg (by omega), decide_eq_false h8]; simp
theorem T6 (s : List UInt8) (h : SM s) : i_isShortName s = some (isShort s) := by
 unfold i_isShortName isShort
 rw [N4 s h, g8]
 cases isSymbol s
 ·simp
 ·simp only [if_true, Bool.true_and]
  exact congrArg some (decide_eq_decide.2 (by omega))
theorem dM (l : List Int) (x : Int) (h : l.length ≤ 4611686018427387904) : s_HasScope l x = some (l.any fun y => decide (y = x)) := by
 unfold s_HasScope
 rw [G7 (L := s_HasScope_L1 l x) l.length (fun i => some ((l.drop i).any fun y => decide (y = x))) (by omega) (fun go i hi hgo => ?_) (fun go => ?_)]
 ·rfl
 ·show s_HasScope_L1b l x go (i : Int) = _
  unfold s_HasScope_L1b
  rw [if_pos (by omega), o6 hi, g8, j5 (by omega), hgo, List.drop_eq_getElem_cons hi, List.any_cons]
  by_cases e : l[i] = x
  ·rw [if_pos e, decide_eq_true e]; simp
  ·rw [if_neg e, decide_eq_false e]; simp
 ·show s_HasScope_L1b l x go (l.length : Int) = _
  unfold s_HasScope_L1b
  rw [if_neg (by omega), List.drop_length]; rfl
def uniqs : List Int → List Int → Bool
 | _, [] => true
 | seen, x :: r => inside x 0 99999 && (!(seen.any fun y => decide (y = x)) && uniqs (seen ++ [x]) r)
theorem dQ (l : List Int) (h : l.length ≤ 4611686018427387904) : s_l5Unique l = some (uniqs [] l) := by
 unfold s_l5Unique
 rw [G7 (L := s_l5Unique_L1 l) l.length (fun i => some (uniqs (l.take i) (l.drop i))) (by omega) (fun go i hi hgo => ?_) (fun go => ?_)]
 ·rfl
 ·show s_l5Unique_L1b l go (i : Int) = _
  unfold s_l5Unique_L1b
  rw [if_pos (by omega), o6 hi, g8, D5, g8, j5 (by omega), Int.toNat_natCast, dM _ _ (by simp; omega), g8, j5 (by omega), hgo, List.drop_eq_getElem_cons hi, uniqs, ← List.take_append_getElem hi]
  cases inside l[i] 0 99999 <;> cases (l.take i).any (fun y => decide (y = l[i])) <;> simp
 ·show s_l5Unique_L1b l go (l.length : Int) = _
  unfold s_l5Unique_L1b
  rw [if_neg (by omega), List.drop_length]; rfl
end Go.Abs

namespace Go.Abs
theorem mget_mput (m : List (Int × Int)) (k v j : Int) : mget (mput m k v) j = if j = k then v else mget m j := by
 unfold mget
 induction m with
 | nil =>
  unfold mput mlook
  by_cases h : j = k
  ·simp [h]
  ·simp [h, mlook]
 | cons p r ih =>
  unfold mput
  by_cases h : k = p.1
  ·rw [if_pos h]
   unfold mlook
   by_cases h2 : j = k
   ·rw [if_pos h2, if_pos h2]; rfl
   ·rw [if_neg h2, if_neg h2, if_neg (by omega)]
  ·rw [if_neg h]
   unfold mlook
   by_cases h2 : j = p.1
   ·rw [if_pos h2, if_pos h2, if_neg (by omega)]
   ·rw [if_neg h2, if_neg h2, ih]
def Knows (seen : List Int) (m : List (Int × Int)) : Prop := ∀ k, decide (mget m k = 1) = seen.any fun y => decide (y = k)
theorem knows_nil : Knows [] [] := fun k => by simp [mget, mlook]
theorem knows_put {seen : List Int} {m : List (Int × Int)} (h : Knows seen m) (x : Int) : Knows (seen ++ [x]) (mput m x 1) := fun k => by
 rw [mget_mput, List.any_append]
 simp only [List.any_cons, List.any_nil, Bool.or_false]
 by_cases e : k = x
 ·subst e; simp
 ·rw [if_neg e, h k, decide_eq_false (fun h => e h.symm)]; simp
theorem T4 : ∀ (a b seen : List Int), uniqs seen (a ++ b) = (uniqs seen a && uniqs (seen ++ a) b)
 | [], b, seen => by simp [uniqs]
 | x :: a, b, seen => by
  simp only [List.cons_append, uniqs]
  rw [T4 a b (seen ++ [x])]
  simp [Bool.and_assoc]
theorem bC (x2 : Int) (go4 : Int × List (Int × Int) → Option Bool) (l : List Int) (hl : l.length ≤ 4611686018427387904) (hx : 0 ≤ x2 ∧ x2 ≤ 100) (y : Option Bool) (seen : List Int) (hgo : ∀ m, Knows (seen ++ l) m → go4 (x2 + 1, m) = y) {m : List (Int × Int)} (hm : Knows seen m) :
 itr (i_differentVariables_L2 x2 go4 l) LF (0, m) = if uniqs seen l = true then y else some false := by
 have := u5 (L := i_differentVariables_L2 x2 go4 l) l.length (fun i m => Knows (seen ++ l.take i) m) (fun i _ => if uniqs (seen ++ l.take i) (l.drop i) = true then y else some false) (by omega) (a := m) (fun go i m hi hI hgo => ?_) (fun go m hI => ?_) (by simpa using hm)
 ·simpa using this
 ·show i_differentVariables_L2b x2 go4 l go (i : Int) m = _
  unfold i_differentVariables_L2b
  rw [if_pos (by omega), o6 hi, g8, List.drop_eq_getElem_cons hi, uniqs]
  have hk := hI l[i]
  have hI' : Knows (seen ++ l.take (i + 1)) (mput m l[i] 1) := by
   rw [← List.take_append_getElem hi, ← List.append_assoc]; exact knows_put hI _
  have hin : inside l[i] 0 99999 = (!decide (l[i] < 0) && !decide (l[i] > 99999)) := by
   unfold inside
   rw [Bool.eq_iff_iff]; simp; try omega
  rw [j5 (by omega), hgo _ hI', ← hk, hin, ← List.take_append_getElem hi, ← List.append_assoc]
  by_cases h1 : l[i] < 0
  ·rw [if_pos h1, decide_eq_true h1]; simp
  ·rw [if_neg h1, decide_eq_false h1]
   by_cases h2 : l[i] > 99999
   ·rw [if_pos h2, decide_eq_true h2]; simp
   ·rw [if_neg h2, decide_eq_false h2]
    by_cases h3 : mget m l[i] = 1
    ·rw [if_pos h3, decide_eq_true h3]; simp
    ·rw [if_neg h3, decide_eq_false h3]; simp
 ·show i_differentVariables_L2b x2 go4 l go (l.length : Int) m = _
  unfold i_differentVariables_L2b
  rw [if_neg (by omega), List.drop_length, j5 (by omega), uniqs, if_pos rfl]
  rw [List.take_length] at hI
  exact hgo _ hI
theorem E8 (a b : List Int) (ha : a.length ≤ 1048576) (hb : b.length ≤ 1048576) : i_differentVariables [a, b] = some (uniqs [] (a ++ b)) := by
 unfold i_differentVariables
 have h3 : ∀ m, ∀ n, itr (i_differentVariables_L1 [a, b]) (n + 1) (2, m) = some true := fun m n => by
  show i_differentVariables_L1b [a, b] (itr (i_differentVariables_L1 [a, b]) n) 2 m = _
  unfold i_differentVariables_L1b
  rw [if_neg (by simp)]
 have h2 : ∀ m, Knows a m → ∀ n, itr (i_differentVariables_L1 [a, b]) (n + 2) (1, m) = some (uniqs a b) := fun m hm n => by
  show i_differentVariables_L1b [a, b] (itr (i_differentVariables_L1 [a, b]) (n + 1)) 1 m = _
  unfold i_differentVariables_L1b
  rw [if_pos (by simp), show nth [a, b] 1 = some b from rfl, g8]
  rw [bC 1 _ b (by omega) (by omega) (some true) a (fun m' _ => h3 m' n) hm]
  cases uniqs a b <;> rfl
 obtain ⟨k, hk⟩ : ∃ k, LF = k + 3 := ⟨LF - 3, by have := LF_eq; omega⟩
 rw [hk]
 show i_differentVariables_L1b [a, b] (itr (i_differentVariables_L1 [a, b]) (k + 2)) 0 [] = _
 unfold i_differentVariables_L1b
 rw [if_pos (by simp), nth_0, g8]
 rw [bC 0 _ a (by omega) (by omega) (some (uniqs a b)) [] (fun m' hm' => h2 m' (by simpa using hm') _) knows_nil, T4, List.nil_append]
 cases uniqs [] a <;> simp
def PObj.ok (o : PObj) : Prop := o.name.length ≤ 9223372036854775807 ∧ (o.defines.length ≤ 9223372036854775807 ∧ ∀ n ∈ o.defines, IntKind.i64.min ≤ n ∧ n ≤ IntKind.i64.max) ∧ (o.uses.length ≤ 9223372036854775807 ∧ ∀ n ∈ o.uses, IntKind.i64.min ≤ n ∧ n ≤ IntKind.i64.max) ∧ o.image.ok
def wO (o : PObj) : Nat := o.name.length + o.defines.length + o.uses.length + wM o.image
def PObj.small (o : PObj) : Prop := o.name.length ≤ 1048576 ∧ o.defines.length ≤ 1048576 ∧ o.uses.length ≤ 1048576 ∧ o.image.small
theorem gB (xs : List Int) (n : Int) (hx : xs.length ≤ 9223372036854775807) (h0 : 0 ≤ n) (h1 : n ≤ 1048576) : w_szIntS xs n = some (szw xs.length n) := by
 unfold w_szIntS szw
 rw [j5 (by omega)]
 split <;> rfl
theorem szObject_eq (o : PObj) (h : o.ok) (n : Int) (h0 : 0 ≤ n) (h1 : n ≤ 1048576) : w_szObject o n = some (szw (wO o) n) := by
 have hw : szw (wO o) n = szw (wM o.image) (szw o.uses.length (szw o.defines.length (szw o.name.length n))) := by rw [R2, R2, R2]; unfold wO; congr 1; omega
 unfold w_szObject
 have := h.1
 rw [j5 (by omega), hw]
 by_cases e : n - (o.name.length : Int) < 0
 ·have e1 : szw o.name.length n = -1 := by unfold szw; rw [if_pos e]
  rw [if_pos e, e1, E5 (w := o.defines.length) (by unfold szw; rw [if_pos (by omega)]; omega), E5 (w := o.uses.length) (by unfold szw; rw [if_pos (by omega)]; omega), E5 (w := wM o.image) (by unfold szw; rw [if_pos (by omega)]; omega)]
 ·have e1 : szw o.name.length n = n - o.name.length := by unfold szw; rw [if_neg e]
  rw [if_neg e, e1, gB _ _ h.2.1.1 (by omega) (by omega), g8]
  by_cases f : szw o.defines.length (n - o.name.length) < 0
  ·rw [if_pos f, E5 f, E5 (w := o.uses.length) (by unfold szw; rw [if_pos (by omega)]; omega), E5 (w := wM o.image) (by unfold szw; rw [if_pos (by omega)]; omega)]
  ·have f1 := szw_pos f
   rw [if_neg f, gB _ _ h.2.2.1.1 (by omega) (by omega), g8]
   by_cases g : szw o.uses.length (szw o.defines.length (n - o.name.length)) < 0
   ·rw [if_pos g, E5 g, E5 (w := wM o.image) (by unfold szw; rw [if_pos (by omega)]; omega)]
   ·have g1 := szw_pos g
    rw [if_neg g, szImage_eq _ h.2.2.2 _ (by omega) (by omega), g8, gC]
theorem dT {o : PObj} (h : wO o ≤ 1048576) : o.small := by
 unfold wO at h
 exact ⟨by omega, by omega, by omega, small_wM (by omega)⟩
theorem gD (xs : List Int) (h : xs.length ≤ 1048576) : w_toIntS xs = some xs := by
 unfold w_toIntS
 exact toS_eq' (L := w_toIntS_L1 xs) (0 : Int) xs 8 (by omega) h (fun go i out => rfl)
theorem W5 (xs : List Int) (h : xs.length ≤ 1048576) : w_eqIntS xs xs = some true := by
 unfold w_eqIntS
 exact eM (L := w_eqIntS_L1 xs xs) xs h (fun go i => rfl)
theorem toObject_eq (o : PObj) (h : o.small) : w_toObject o = some o := by
 unfold w_toObject
 rw [gD _ h.2.1, g8, gD _ h.2.2.1, g8, toImage_eq _ h.2.2.2, g8]
theorem eqObject_eq (o : PObj) (h : o.small) : w_eqObject o o = some true := by
 unfold w_eqObject
 rw [if_pos rfl, W5 _ h.2.1, g8, if_pos rfl, W5 _ h.2.2.1, g8, if_pos rfl, eqImage_eq _ h.2.2.2, g8, if_pos rfl]
theorem l2Ints_eq (xs : List Int) (h : xs.length ≤ 1048576) : s_l2Ints xs = some xs := by
 unfold s_l2Ints
 rw [j5 (by simp; omega)]; rfl
def isObj (o : PObj) : Bool := isShort o.name && (uniqs [] (o.defines ++ o.uses) && isImg o.image ((o.defines.length : Int) + o.uses.length))
theorem dN (o : PObj) (h : o.small) (hs : SM o.name) : s_IsObject o = some (isObj o) := by
 unfold s_IsObject isObj
 rw [l2Ints_eq _ h.2.1, g8, j5 (by have := h.2.1; have := h.2.2.1; omega), s_l7Name_eq _ hs, g8, dQ _ (by have := h.2.1; have := h.2.2.1; simp; omega), fT _ h.2.2.2]
 simp only [g8, List.length_append, Int.natCast_add]
 cases isShort o.name <;> cases uniqs [] (o.defines ++ o.uses) <;> simp
theorem cP (o : PObj) (h : o.small) (hs : SM o.name) : i_IsObject o = some (isObj o) := by
 unfold i_IsObject isObj
 rw [T6 _ hs, g8, E8 _ _ h.2.1 h.2.2.1, j5 (by have := h.2.1; have := h.2.2.1; omega), eU _ h.2.2.2]
 simp only [g8]
 cases isShort o.name <;> cases uniqs [] (o.defines ++ o.uses) <;> simp
end Go.Abs

namespace Go.Abs
open Go.Lib (decDigits itoa nDigits)
theorem nDig_le : ∀ (k u : Nat), u < 10 ^ (k + 1) → nDigits u ≤ k + 1
 | 0, u, h => by rw [Go.Lib.nDigits_small (by simpa using h)]; omega
 | k + 1, u, h => by
  by_cases hu : u < 10
  ·rw [Go.Lib.nDigits_small hu]; omega
  ·rw [Go.Lib.nDigits_big hu]
   have := nDig_le k (u / 10) (by rw [Nat.pow_succ] at h; omega)
   omega
theorem dec_len (u : Nat) (h : u ≤ 999999999) : (decDigits u).length ≤ 9 := by
 rw [Go.Lib.decDigits_eq, List.length_map, List.length_range]
 exact nDig_le 8 u (by show u < 10 ^ 9; omega)
theorem eE {u : Nat} (h : u < 10) : decDigits u = [UInt8.ofNat (48 + u)] := by rw [decDigits, dif_pos h]
theorem dec_big {u : Nat} (h : ¬ u < 10) : decDigits u = decDigits (u / 10) ++ [UInt8.ofNat (48 + u % 10)] := by rw [decDigits, dif_neg h]
theorem u4 (n : Int) (h : -999999999 ≤ n ∧ n ≤ 999999999) : s_FormatNumber n = some (itoa n) := by
 unfold s_FormatNumber
 by_cases h0 : n = 0
 ·rw [if_pos h0, h0]
  unfold itoa
  rw [if_neg (by omega), show (0 : Int).toNat = 0 from rfl, eE (by omega)]
  rfl
 rw [if_neg h0]
 have hT := dec_len n.natAbs (by omega)
 have key := B0 (L := s_FormatNumber_L1 n) (fun r => r = itoa n) (fun v => ((v.2 = 0 ∧ v.1 = decDigits n.natAbs) ∨ (v.2 ≠ 0 ∧ decDigits v.2.natAbs ++ v.1 = decDigits n.natAbs)) ∧ ((0 ≤ n ∧ 0 ≤ v.2 ∧ v.2 ≤ n) ∨ (n < 0 ∧ v.2 ≤ 0 ∧ n ≤ v.2))) (fun v => v.2.natAbs) (fun go v hv hgo => ?_) ([], n) ⟨.inr ⟨h0, by simp⟩, by show (0 ≤ n ∧ 0 ≤ n ∧ n ≤ n) ∨ (n < 0 ∧ n ≤ 0 ∧ n ≤ n); omega⟩ (by show n.natAbs < _; omega)
 ·obtain ⟨r, h1, h2⟩ := key; rw [h1, h2]
 ·obtain ⟨out, x⟩ := v
  obtain ⟨h1, h2⟩ := hv
  simp only at h1 h2
  show ∃ r, s_FormatNumber_L1b n go out x = some r ∧ _
  unfold s_FormatNumber_L1b
  by_cases hx : x = 0
  ·have ho : out = decDigits n.natAbs := by
    rcases h1 with h1 | h1
    ·exact h1.2
    ·exact absurd hx h1.1
   rw [if_pos hx]
   by_cases hn : n < 0
   ·rw [if_pos hn, j5 (by rw [ho]; simp; omega)]
    refine ⟨_, rfl, ?_⟩
    unfold itoa
    rw [if_pos hn, ho]; rfl
   ·rw [if_neg hn]
    refine ⟨_, rfl, ?_⟩
    unfold itoa
    rw [if_neg hn, ho, show n.natAbs = n.toNat by omega]
  ·have ho : decDigits x.natAbs ++ out = decDigits n.natAbs := by
    rcases h1 with h1 | h1
    ·exact absurd h1.1 hx
    ·exact h1.2
   have hol : out.length ≤ 9 := by
    have := congrArg List.length ho
    rw [List.length_append] at this; omega
   have hx2 : -999999999 ≤ x ∧ x ≤ 999999999 := by omega
   obtain ⟨dg, q, e1, e2, e3, e4⟩ : ∃ dg q : Int, (Int.tmod x 10 = dg ∨ Int.tmod x 10 = -dg) ∧ dg = ((x.natAbs % 10 : Nat) : Int) ∧ Int.tdiv x 10 = q ∧ (q.natAbs = x.natAbs / 10 ∧ ((0 ≤ n ∧ 0 ≤ q ∧ q ≤ n ∧ Int.tmod x 10 = dg) ∨ (n < 0 ∧ q ≤ 0 ∧ n ≤ q ∧ Int.tmod x 10 = -dg))) := by
    rcases h2 with ⟨a1, a2, a3⟩ | ⟨a1, a2, a3⟩
    ·refine ⟨x % 10, x / 10, .inl (Int.tmod_eq_emod_of_nonneg a2), by omega, Int.tdiv_eq_ediv_of_nonneg a2, by omega, .inl ⟨a1, by omega, by omega, Int.tmod_eq_emod_of_nonneg a2⟩⟩
    ·have t1 : Int.tmod x 10 = -((-x) % 10) := by rw [← Int.tmod_eq_emod_of_nonneg (by omega : 0 ≤ -x), Int.neg_tmod, Int.neg_neg]
     have t2 : Int.tdiv x 10 = -((-x) / 10) := by rw [← Int.tdiv_eq_ediv_of_nonneg (by omega : 0 ≤ -x), Int.neg_tdiv, Int.neg_neg]
     exact ⟨(-x) % 10, -((-x) / 10), .inr t1, by omega, t2, by omega, .inr ⟨a1, by omega, by omega, t1⟩⟩
   have hd : 0 ≤ dg ∧ dg ≤ 9 := by omega
   have hJ : ∃ r, s_FormatNumber_J2 out x go dg = some r ∧ r = itoa n := by
    unfold s_FormatNumber_J2
    rw [j5 (show -9223372036854775808 ≤ 48 + dg ∧ 48 + dg ≤ 9223372036854775807 by omega), j5 (by omega), j5 (by simp; omega), j5 (show (-9223372036854775808 ≤ x ∧ x ≤ 9223372036854775807) ∧ (0 : Int) < 10 by omega), e3]
    refine hgo (_, q) ⟨?_, by show (0 ≤ n ∧ 0 ≤ q ∧ q ≤ n) ∨ (n < 0 ∧ q ≤ 0 ∧ n ≤ q); omega⟩ (by show q.natAbs < x.natAbs; omega)
    show (q = 0 ∧ _) ∨ (q ≠ 0 ∧ _)
    have hdn : (48 + dg).toNat = 48 + x.natAbs % 10 := by omega
    rw [hdn]
    by_cases hs : x.natAbs < 10
    ·refine .inl ⟨by omega, ?_⟩
     rw [← ho, eE hs, Nat.mod_eq_of_lt hs]
    ·refine .inr ⟨by omega, ?_⟩
     rw [← ho, dec_big hs, e4.1, List.append_assoc]
   rw [if_neg hx, j5 (show (-9223372036854775808 ≤ x ∧ x ≤ 9223372036854775807) ∧ (0 : Int) < 10 by omega)]
   by_cases hneg : Int.tmod x 10 < 0
   ·have e : -(Int.tmod x 10) = dg := by omega
    rw [if_pos hneg, e, j5 (show -9223372036854775808 ≤ dg ∧ dg ≤ 9223372036854775807 by omega)]
    exact hJ
   ·have e : Int.tmod x 10 = dg := by omega
    rw [if_neg hneg, e]
    exact hJ
theorem w9 (n : Int) (h : -999999999 ≤ n ∧ n ≤ 999999999) : i_FormatNumber n = some (itoa n) := by
 unfold i_FormatNumber x_Itoa
 rw [j5 (show -9223372036854775808 ≤ n ∧ n ≤ 9223372036854775807 by omega)]; rfl
theorem A9 (n : Int) (h : -999999999 ≤ n ∧ n ≤ 999999999) : (itoa n).length ≤ 10 := by
 unfold itoa
 split
 ·have := dec_len n.natAbs (by omega); simp; omega
 ·have := dec_len n.toNat (by omega); omega
end Go.Abs

namespace Go.Abs
open PDat
open Go.Lib (itoa)
mutual
def fmtD : PDat → List UInt8
 | .mk k n t is => if k = 1 then t else if k = 2 then itoa n else if k = 3 then (if n = 1 then [35, 116] else [35, 102]) else if k = 4 then [34] ++ t ++ [34] else [40] ++ fmtDs true is ++ [41]
def fmtDs : Bool → List PDat → List UInt8
 | _, [] => []
 | first, d :: r => (if first then [] else [32]) ++ fmtD d ++ fmtDs false r
end
theorem fmtD_eq (d : PDat) : fmtD d = if d.kind = 1 then d.text else if d.kind = 2 then itoa d.number else if d.kind = 3 then (if d.number = 1 then [35, 116] else [35, 102]) else if d.kind = 4 then [34] ++ d.text ++ [34] else [40] ++ fmtDs true d.items ++ [41] := by cases d; rw [fmtD]; rfl
theorem O1 (d : PDat) : d.okAll = (nodeOK d.kind d.number d.text d.items.length && okAlls d.items) := by cases d; rfl
theorem K3 : ∀ {ds : List PDat}, okAlls ds = true → ∀ x ∈ ds, x.okAll = true
 | d :: r, h, x, hx => by
  simp only [okAlls, Bool.and_eq_true] at h
  rcases List.mem_cons.1 hx with rfl | hx
  ·exact h.1
  ·exact K3 h.2 x hx
theorem U2 {k n m : Int} {t : List UInt8} (h : nodeOK k n t m = true) : (k = 2 → -999999999 ≤ n ∧ n ≤ 999999999) ∧ (k = 3 → n = 0 ∨ n = 1) := by
 unfold nodeOK inside at h
 refine ⟨fun e => ?_, fun e => ?_⟩
 ·rw [if_neg (by omega), if_neg (by omega), if_pos e] at h
  simp at h; omega
 ·rw [if_neg (by omega), if_neg (by omega), if_neg (by omega), if_pos e] at h
  simp at h; omega
theorem cK : (∀ d : PDat, d.okAll = true → (fmtD d).length ≤ 16 + 17 * wD d) ∧ ∀ ds : List PDat, okAlls ds = true → ∀ b, (fmtDs b ds).length ≤ 17 * wDs ds := by
 refine ind (fun ds h => ?_) (fun d h => ?_)
 ·intro ho
  induction ds with
  | nil => intro b; simp [fmtDs]
  | cons x r ih =>
   intro b
   simp only [okAlls, Bool.and_eq_true] at ho
   have h1 := h x (by simp) ho.1
   have h2 := ih (fun y hy => h y (by simp [hy])) ho.2 false
   unfold fmtDs wDs
   have : (if b = true then ([] : List UInt8) else [32]).length ≤ 1 := by cases b <;> simp
   simp only [List.length_append]
   omega
 ·intro ho
  rw [O1, Bool.and_eq_true] at ho
  rw [fmtD_eq, gG]
  split
  ·omega
  split
  ·rename_i e; have := A9 _ ((U2 ho.1).1 e); omega
  split
  ·split <;> simp <;> omega
  split
  ·simp; omega
  ·have := h ho.2 true
   simp only [List.length_append, List.length_singleton]; omega
theorem wDs_app : ∀ (a b : List PDat), wDs (a ++ b) = wDs a + wDs b
 | [], b => by simp [wDs]
 | d :: r, b => by rw [List.cons_append, wDs, wDs, wDs_app r b]; omega
theorem wDs_take {ds : List PDat} {j : Nat} (h : j < ds.length) : wDs (ds.take (j + 1)) = wDs (ds.take j) + (1 + wD ds[j]) ∧ wDs (ds.take (j + 1)) ≤ wDs ds := by
 refine ⟨?_, ?_⟩
 ·rw [← List.take_append_getElem h, wDs_app]; simp [wDs]
 ·have := wDs_app (ds.take (j + 1)) (ds.drop (j + 1))
  rw [List.take_append_drop] at this; omega
theorem I9 : ∀ (n : Nat) (d : PDat) (out : List UInt8), d.cnt < n → d.okAll = true → d.small → out.length + 17 * wD d ≤ 1000000000 → i_writeDatum n out d = some (out ++ fmtD d)
 | 0, d, _, h, _, _, _ => by omega
 | n + 1, d, out, h, ho, hs, hl => by
  show i_writeDatum_b (i_writeDatum n) out d = _
  have ho' := ho
  rw [O1, Bool.and_eq_true] at ho'
  have hw := gG d
  unfold i_writeDatum_b
  rw [fmtD_eq]
  by_cases k1 : d.kind = 1
  ·rw [if_pos k1, if_pos k1, j5 (by omega)]
  rw [if_neg k1, if_neg k1]
  by_cases k2 : d.kind = 2
  ·have h2 := (U2 ho'.1).1 k2
   have := A9 _ h2
   rw [if_pos k2, if_pos k2, w9 _ h2, g8, j5 (by omega)]
  rw [if_neg k2, if_neg k2]
  by_cases k3 : d.kind = 3
  ·rw [if_pos k3, if_pos k3]
   split
   ·rw [j5 (by simp; omega)]
   ·rw [j5 (by simp; omega)]
  rw [if_neg k3, if_neg k3]
  by_cases k4 : d.kind = 4
  ·rw [if_pos k4, if_pos k4, j5 (by simp; omega), j5 (by simp; omega), j5 (by simp; omega)]; simp
  rw [if_neg k4, if_neg k4, j5 (by simp; omega)]
  have hsl := B5 hs
  have hfl := cK.2 d.items ho'.2
  have key := B0 (L := i_writeDatum_L1 (i_writeDatum n) d) (fun r => r = out ++ ([40] ++ fmtDs true d.items ++ [41])) (fun v => 0 ≤ v.1 ∧ v.1 ≤ d.items.length ∧ v.2 ++ fmtDs (decide (v.1 = 0)) (d.items.drop v.1.toNat) = out ++ ([40] ++ fmtDs true d.items) ∧ v.2.length ≤ out.length + 1 + 17 * wDs (d.items.take v.1.toNat)) (fun v => d.items.length - v.1.toNat) (fun go v hv hgo => ?_) (0, out ++ [40]) ⟨by show (0 : Int) ≤ 0; omega, by show (0 : Int) ≤ _; omega, by simp, by simp⟩ (by show d.items.length - 0 < _; omega)
  ·obtain ⟨r, e1, e2⟩ := key; rw [e1, e2]
  ·obtain ⟨i, o⟩ := v
   obtain ⟨h1, h2, h3, h4⟩ := hv
   simp only at h1 h2 h3 h4
   obtain ⟨j, rfl⟩ := Int.eq_ofNat_of_zero_le h1
   simp only [Int.ofNat_eq_natCast, Int.toNat_natCast] at *
   show ∃ r, i_writeDatum_L1b (i_writeDatum n) d go (j : Int) o = some r ∧ _
   unfold i_writeDatum_L1b
   by_cases hj : j < d.items.length
   ·rw [if_pos (by omega), o6 hj, g8]
    have hd := List.drop_eq_getElem_cons hj
    rw [hd, fmtDs] at h3
    obtain ⟨wt1, wt2⟩ := wDs_take hj
    have hxl := cK.1 _ (K3 ho'.2 _ (List.getElem_mem hj))
    have hwm := dW (List.getElem_mem hj)
    have hxo := K3 ho'.2 _ (List.getElem_mem hj)
    have hxs := (p8 hs hj).1
    have hxc : d.items[j].cnt < n := by have := (p8 hs hj).2; omega
    have fin : ∀ o2 : List UInt8, o2 = o ++ (if decide ((j : Int) = 0) = true then [] else [32]) → ∃ r, i_writeDatum_J2 (i_writeDatum n) (j : Int) go d.items[j] o2 = some r ∧ r = out ++ ([40] ++ fmtDs true d.items ++ [41]) := by
     intro o2 e
     have ho2 : o2.length ≤ o.length + 1 := by rw [e]; simp only [List.length_append]; split <;> simp
     unfold i_writeDatum_J2
     rw [I9 n _ o2 hxc hxo hxs (by omega), g8, j5 (show -9223372036854775808 ≤ (j : Int) + 1 ∧ (j : Int) + 1 ≤ 9223372036854775807 by omega)]
     have e1 : ((j : Int) + 1).toNat = j + 1 := by omega
     refine hgo _ ⟨by show (0 : Int) ≤ (j : Int) + 1; omega, by show (j : Int) + 1 ≤ _; omega, ?_, by show (o2 ++ fmtD d.items[j]).length ≤ _ + 17 * wDs (d.items.take ((j : Int) + 1).toNat); rw [e1, List.length_append]; omega⟩ (by show d.items.length - ((j : Int) + 1).toNat < d.items.length - (j : Int).toNat; omega)
     have e2 : decide ((j : Int) + 1 = 0) = false := by simp; omega
     show (o2 ++ fmtD d.items[j]) ++ fmtDs (decide ((j : Int) + 1 = 0)) (d.items.drop ((j : Int) + 1).toNat) = _
     rw [e1, e2, e, ← h3]; simp only [List.append_assoc]
    by_cases hj0 : (j : Int) > 0
    ·rw [if_pos hj0, j5 (by simp; omega)]
     exact fin _ (by rw [if_neg (by simp; omega)])
    ·rw [if_neg hj0]
     exact fin _ (by rw [if_pos (by simp; omega)]; simp)
   ·have ht : d.items.take j = d.items := List.take_of_length_le (by omega)
    rw [ht] at h4
    rw [if_neg (by omega), j5 (by simp; omega)]
    refine ⟨_, rfl, ?_⟩
    rw [List.drop_eq_nil_of_le (by omega)] at h3
    have e : fmtDs (decide ((j : Int) = 0)) [] = [] := by unfold fmtDs; rfl
    rw [e, List.append_nil] at h3
    rw [h3]; simp
theorem T5 (d : PDat) (hv : d.valid = true) (hw : wD d ≤ 1048576) : i_FormatDatum d = some (fmtD d) := by
 have hs := dS hw
 unfold i_FormatDatum
 have ho : d.okAll = true := by
  unfold valid at hv; simp only [Bool.and_eq_true] at hv; exact hv.2.2
 rw [R8 d hs, g8, if_pos hv, I9 RF d [] (RF_cnt hs) ho hs (by simp; omega), g8]; rfl
def joinT : Bool → List (List UInt8) → List UInt8
 | _, [] => []
 | first, t :: r => (if first then [] else [32]) ++ t ++ joinT false r
theorem s_l1Join_eq (ts : List (List UInt8)) (hn : ts.length ≤ 1048576) (hl : (joinT true ts).length ≤ 1000000000) : s_l1Join ts [32] = some (joinT true ts) := by
 unfold s_l1Join
 have key := B0 (L := s_l1Join_L1 ts [32]) (fun r => r = joinT true ts) (fun v => 0 ≤ v.2 ∧ v.2 ≤ ts.length ∧ v.1 ++ joinT (decide (v.2 = 0)) (ts.drop v.2.toNat) = joinT true ts) (fun v => ts.length - v.2.toNat) (fun go v hv hgo => ?_) ([], 0) ⟨by show (0 : Int) ≤ 0; omega, by show (0 : Int) ≤ _; omega, by simp⟩ (by show ts.length - 0 < _; omega)
 ·obtain ⟨r, e1, e2⟩ := key; rw [e1, e2]
 ·obtain ⟨o, i⟩ := v
  obtain ⟨h1, h2, h3⟩ := hv
  simp only at h1 h2 h3
  obtain ⟨j, rfl⟩ := Int.eq_ofNat_of_zero_le h1
  simp only [Int.ofNat_eq_natCast, Int.toNat_natCast] at *
  show ∃ r, s_l1Join_L1b ts [32] go o (j : Int) = some r ∧ _
  unfold s_l1Join_L1b
  have hol := congrArg List.length h3
  by_cases hj : j < ts.length
  ·rw [if_pos (by omega), o6 hj, g8]
   rw [List.drop_eq_getElem_cons hj, joinT] at h3 hol
   simp only [List.length_append] at hol
   have fin : ∀ o2 : List UInt8, o2 = o ++ (if decide ((j : Int) = 0) = true then [] else [32]) → ∃ r, s_l1Join_J2 (j : Int) go ts[j] o2 = some r ∧ r = joinT true ts := by
    intro o2 e
    have ho2 : o2.length ≤ o.length + 1 := by rw [e]; simp only [List.length_append]; split <;> simp
    unfold s_l1Join_J2
    rw [j5 (by omega), j5 (show -9223372036854775808 ≤ (j : Int) + 1 ∧ (j : Int) + 1 ≤ 9223372036854775807 by omega)]
    refine hgo _ ⟨by show (0 : Int) ≤ (j : Int) + 1; omega, by show (j : Int) + 1 ≤ _; omega, ?_⟩ (by show ts.length - ((j : Int) + 1).toNat < ts.length - (j : Int).toNat; omega)
    have e1 : ((j : Int) + 1).toNat = j + 1 := by omega
    have e2 : decide ((j : Int) + 1 = 0) = false := by simp; omega
    show (o2 ++ ts[j]) ++ joinT (decide ((j : Int) + 1 = 0)) (ts.drop ((j : Int) + 1).toNat) = _
    rw [e1, e2, e, ← h3]; simp only [List.append_assoc]
   by_cases hj0 : (j : Int) > 0
   ·rw [if_pos hj0, j5 (by simp; omega)]
    exact fin _ (by rw [if_neg (by simp; omega)])
   ·rw [if_neg hj0]
    exact fin _ (by rw [if_pos (by simp; omega)]; simp)
  ·rw [if_neg (by omega)]
   refine ⟨_, rfl, ?_⟩
   rw [List.drop_eq_nil_of_le (by omega)] at h3
   have e : joinT (decide ((j : Int) = 0)) [] = [] := rfl
   rw [e, List.append_nil] at h3
   exact h3
theorem cS : ∀ (b : Bool) (ds : List PDat), joinT b (ds.map fmtD) = fmtDs b ds
 | _, [] => by unfold fmtDs; rfl
 | b, d :: r => by rw [List.map_cons, joinT, fmtDs, cS false r]
theorem O8 : ∀ (n : Nat) (d : PDat), d.cnt < n → d.okAll = true → d.small → wD d ≤ 1048576 → s_l1Format n d = some (fmtD d)
 | 0, d, h, _, _, _ => by omega
 | n + 1, d, h, ho, hs, hl => by
  show s_l1Format_b (s_l1Format n) d = _
  have ho' := ho
  rw [O1, Bool.and_eq_true] at ho'
  have hw := gG d
  unfold s_l1Format_b
  rw [fmtD_eq]
  by_cases k1 : d.kind = 1
  ·rw [if_pos k1, if_pos k1]
  rw [if_neg k1, if_neg k1]
  by_cases k2 : d.kind = 2
  ·have h2 := (U2 ho'.1).1 k2
   rw [if_pos k2, if_pos k2, u4 _ h2, g8]
  rw [if_neg k2, if_neg k2]
  by_cases k3 : d.kind = 3
  ·rw [if_pos k3, if_pos k3]
   rcases (U2 ho'.1).2 k3 with e | e
   ·rw [if_neg (by omega), e]; rfl
   ·rw [if_pos e, e]; rfl
  rw [if_neg k3, if_neg k3]
  by_cases k4 : d.kind = 4
  ·rw [if_pos k4, if_pos k4, j5 (by simp; omega), j5 (by simp; omega)]
  rw [if_neg k4, if_neg k4]
  have hsl := B5 hs
  have hfl := cK.2 d.items ho'.2 true
  have key := B0 (L := s_l1Format_L1 (s_l1Format n) d) (fun r => r = [40] ++ fmtDs true d.items ++ [41]) (fun v => 0 ≤ v.1 ∧ v.1 ≤ d.items.length ∧ v.2 = (d.items.take v.1.toNat).map fmtD) (fun v => d.items.length - v.1.toNat) (fun go v hv hgo => ?_) (0, []) ⟨by show (0 : Int) ≤ 0; omega, by show (0 : Int) ≤ _; omega, by simp⟩ (by show d.items.length - 0 < _; omega)
  ·obtain ⟨r, e1, e2⟩ := key; rw [e1, e2]
  ·obtain ⟨i, ps⟩ := v
   obtain ⟨h1, h2, h3⟩ := hv
   simp only at h1 h2 h3
   obtain ⟨j, rfl⟩ := Int.eq_ofNat_of_zero_le h1
   simp only [Int.ofNat_eq_natCast, Int.toNat_natCast] at *
   show ∃ r, s_l1Format_L1b (s_l1Format n) d go (j : Int) ps = some r ∧ _
   unfold s_l1Format_L1b
   by_cases hj : j < d.items.length
   ·have hwm := dW (List.getElem_mem hj)
    rw [if_pos (by omega), o6 hj, g8, O8 n _ (by have := (p8 hs hj).2; omega) (K3 ho'.2 _ (List.getElem_mem hj)) (p8 hs hj).1 (by omega), g8, j5 (by rw [h3]; simp; omega), j5 (show -9223372036854775808 ≤ (j : Int) + 1 ∧ (j : Int) + 1 ≤ 9223372036854775807 by omega)]
    refine hgo _ ⟨by show (0 : Int) ≤ (j : Int) + 1; omega, by show (j : Int) + 1 ≤ _; omega, ?_⟩ (by show d.items.length - ((j : Int) + 1).toNat < d.items.length - (j : Int).toNat; omega)
    have e1 : ((j : Int) + 1).toNat = j + 1 := by omega
    show ps ++ [fmtD d.items[j]] = (d.items.take ((j : Int) + 1).toNat).map fmtD
    rw [e1, h3, ← List.take_append_getElem hj, List.map_append]; rfl
   ·have e : ps = d.items.map fmtD := by rw [h3, List.take_of_length_le (by omega)]
    rw [if_neg (by omega), s_l1Join_eq ps (by rw [e]; simp; omega) (by rw [e, cS]; omega), g8, e, cS, j5 (by simp; omega), j5 (by simp; omega)]
    exact ⟨_, rfl, rfl⟩
theorem opNames_len : ∀ i : Nat, i < 20 → ∃ t, nth t4 (i : Int) = some t ∧ t.length ≤ 20
 | 0, _ => ⟨_, rfl, by decide⟩ | 1, _ => ⟨_, rfl, by decide⟩ | 2, _ => ⟨_, rfl, by decide⟩ | 3, _ => ⟨_, rfl, by decide⟩ | 4, _ => ⟨_, rfl, by decide⟩
 | 5, _ => ⟨_, rfl, by decide⟩ | 6, _ => ⟨_, rfl, by decide⟩ | 7, _ => ⟨_, rfl, by decide⟩ | 8, _ => ⟨_, rfl, by decide⟩ | 9, _ => ⟨_, rfl, by decide⟩
 | 10, _ => ⟨_, rfl, by decide⟩ | 11, _ => ⟨_, rfl, by decide⟩ | 12, _ => ⟨_, rfl, by decide⟩ | 13, _ => ⟨_, rfl, by decide⟩ | 14, _ => ⟨_, rfl, by decide⟩
 | 15, _ => ⟨_, rfl, by decide⟩ | 16, _ => ⟨_, rfl, by decide⟩ | 17, _ => ⟨_, rfl, by decide⟩ | 18, _ => ⟨_, rfl, by decide⟩ | 19, _ => ⟨_, rfl, by decide⟩
 | n + 20, h => by omega
theorem OpName_eq (op : Int) (h : 1 ≤ op ∧ op ≤ 20) : ∃ t, i_OpName op = some t ∧ s_OpName op = some t ∧ t.length ≤ 20 := by
 obtain ⟨i, hi⟩ : ∃ i : Nat, op - 1 = (i : Int) := ⟨(op - 1).toNat, by omega⟩
 obtain ⟨t, e1, e2⟩ := opNames_len i (by omega)
 have c : I64 (op - 1) := show -9223372036854775808 ≤ op - 1 ∧ op - 1 ≤ 9223372036854775807 by omega
 refine ⟨t, ?_, ?_, e2⟩
 ·unfold i_OpName
  rw [if_neg (by omega), if_neg (by omega), j5 c, hi, e1, g8]
 ·unfold s_OpName
  have hin : s_l1In op 1 20 = some true := by unfold s_l1In; rw [if_pos (by omega)]; simp; omega
  rw [hin, g8, if_pos rfl, j5 c, hi]
  show bnd (nth t4 (i : Int)) _ = _
  rw [e1, g8]
theorem FormatInstr_eq (x : PInstr) (hw : wD x.d ≤ 1048576) : ∃ t, i_FormatInstr x = some t ∧ s_FormatInstr x = some t ∧ (instrOK x = true → t.length ≤ 20 + 1 + 17 * 1048576 + 16) := by
 have hs := dS hw
 unfold i_FormatInstr s_FormatInstr
 rw [R9 x hs, O7 x hs, g8, g8]
 cases hok : instrOK x
 ·exact ⟨_, rfl, rfl, fun h => by cases h⟩
 rw [if_pos rfl, if_pos rfl]
 unfold instrOK inside at hok
 rw [Bool.and_eq_true] at hok
 have hop : 1 ≤ x.op ∧ x.op ≤ 20 := by simpa using hok.1
 obtain ⟨t, e1, e2, e3⟩ := OpName_eq x.op hop
 by_cases h1 : x.op = 1
 ·rw [if_pos h1] at hok
  have hv : x.d.valid = true := by have := hok.2; simp only [Bool.and_eq_true] at this; exact this.2
  have ho : x.d.okAll = true := by
   unfold valid at hv; simp only [Bool.and_eq_true] at hv; exact hv.2.2
  have hl := cK.1 x.d ho
  rw [if_pos h1, if_pos h1, e1, g8, e2, g8, j5 (by simp; omega), j5 (by simp; omega), T5 x.d hv hw, g8, O8 RF x.d (RF_cnt hs) ho hs hw, g8, j5 (by simp; omega)]
  exact ⟨_, rfl, rfl, fun _ => by simp; omega⟩
 ·rw [if_neg h1] at hok
  have ha : 0 ≤ x.a ∧ x.a ≤ 4000 := by
   have := hok.2; simp only [Bool.and_eq_true] at this; simpa using this.2.1
  have hi := A9 x.a (by omega)
  rw [if_neg h1, if_neg h1]
  unfold s_l10Plain
  by_cases h14 : x.op = 14
  ·rw [if_pos h14, if_pos h14, g8, if_pos rfl, e1, e2, g8]
   exact ⟨_, rfl, rfl, fun _ => by omega⟩
  rw [if_neg h14, if_neg h14, g8]
  by_cases h17 : x.op = 17
  ·rw [if_pos h17, if_pos (by simp [h17]), e1, e2, g8]
   exact ⟨_, rfl, rfl, fun _ => by omega⟩
  rw [if_neg h17, if_neg (by simp [h17]), e1, e2, g8, g8, j5 (by simp; omega), j5 (by simp; omega), w9 _ (by omega), u4 _ (by omega), g8, j5 (by simp; omega)]
  exact ⟨_, rfl, rfl, fun _ => by simp; omega⟩
end Go.Abs

namespace Go.Abs
open Go.Lib (itoa)
abbrev LL := List (List UInt8)
theorem aP (xs : LL) (h : xs.length ≤ 1048576) : w_eqStringS xs xs = some true := by
 unfold w_eqStringS
 exact eM (L := w_eqStringS_L1 xs xs) xs h (fun go i => rfl)
def mtx (i : Nat) : List UInt8 := (w_markText (1 + (i : Int))).getD []
theorem mtx_eq (i : Nat) (h : i ≤ 1048576) (k : Int) (hk : k = 1 + (i : Int)) : w_markText k = some (mtx i) := by
 obtain ⟨t, ht⟩ := G9 k (by omega)
 unfold mtx; rw [← hk, ht]; rfl
theorem T7 (xs : LL) (hn : xs.length ≤ 1048576) : ∃ a', w_markStringS xs 1 = some (1 + (xs.length : Int), a') ∧ a'.length = xs.length ∧ ∀ i : Nat, i < xs.length → a'[i]? = some (mtx i) := by
 unfold w_markStringS
 have := B0 (L := w_markStringS_L1) (fun r => ∃ a', r = (1 + (xs.length : Int), a') ∧ a'.length = xs.length ∧ ∀ i : Nat, i < xs.length → a'[i]? = some (mtx i)) (fun v => (0 ≤ v.2.1 ∧ v.2.1 ≤ xs.length) ∧ v.1 = 1 + v.2.1 ∧ v.2.2.length = xs.length ∧ ∀ i : Nat, (i : Int) < v.2.1 → v.2.2[i]? = some (mtx i)) (fun v => xs.length - v.2.1.toNat) (fun go v hv hgo => ?_) (1, 0, xs) ⟨⟨by show (0:Int) ≤ 0; omega, by show (0 : Int) ≤ _; omega⟩, rfl, rfl, fun i hi => by have : (i : Int) < 0 := hi; omega⟩ (by show xs.length - 0 < _; omega)
 ·obtain ⟨r, h1, a', h2, h3⟩ := this; exact ⟨a', by rw [h1, h2], h3⟩
 ·obtain ⟨k, j, a⟩ := v
  obtain ⟨⟨h1, h2⟩, h3, h4, h5⟩ := hv
  simp only at h1 h2 h3 h4 h5
  obtain ⟨i, rfl⟩ := Int.eq_ofNat_of_zero_le h1
  simp only [Int.ofNat_eq_natCast] at *
  show ∃ r, w_markStringS_L1b go k (i : Int) a = some r ∧ _
  unfold w_markStringS_L1b
  by_cases hi : i < xs.length
  ·rw [if_pos (by omega), mtx_eq i (by omega) k h3, g8, o6 (by omega), g8, j5 (by omega), j5 (by omega), Int.toNat_natCast]
   refine hgo (k + 1, (i : Int) + 1, a.set i (mtx i)) ⟨⟨by show (0 : Int) ≤ (i : Int) + 1; omega, by show (i : Int) + 1 ≤ _; omega⟩, by show k + 1 = 1 + ((i : Int) + 1); omega, by simpa using h4, fun m hm => ?_⟩ (by show xs.length - ((i : Int) + 1).toNat < xs.length - (i : Int).toNat; omega)
   have hm' : (m : Int) < (i : Int) + 1 := hm
   show (a.set i (mtx i))[m]? = _
   by_cases e : i = m
   ·subst e
    rw [List.getElem?_set_self (by omega)]
   ·rw [List.getElem?_set_ne e]
    exact h5 m (by omega)
  ·have : i = xs.length := by omega
   subst this
   rw [if_neg (by omega)]
   exact ⟨_, rfl, _, by rw [h3], h4, fun m hm => h5 m (by omega)⟩
theorem aQ (a : LL) (hn : a.length ≤ 1048576) (h : ∀ i : Nat, i < a.length → a[i]? = some (mtx i)) : w_heldStringS a 1 = some (1 + (a.length : Int)) := by
 unfold w_heldStringS
 have := B0 (L := w_heldStringS_L1 a) (fun r => r = 1 + (a.length : Int)) (fun v => (0 ≤ v.2 ∧ v.2 ≤ a.length) ∧ v.1 = 1 + v.2) (fun v => a.length - v.2.toNat) (fun go v hv hgo => ?_) (1, 0) ⟨⟨by show (0:Int) ≤ 0; omega, by show (0 : Int) ≤ _; omega⟩, rfl⟩ (by show a.length - 0 < _; omega)
 ·obtain ⟨r, h1, h2⟩ := this; rw [h1, h2]
 ·obtain ⟨k, j⟩ := v
  obtain ⟨⟨h1, h2⟩, h3⟩ := hv
  simp only at h1 h2 h3
  obtain ⟨i, rfl⟩ := Int.eq_ofNat_of_zero_le h1
  simp only [Int.ofNat_eq_natCast] at *
  show ∃ r, w_heldStringS_L1b a go k (i : Int) = some r ∧ _
  unfold w_heldStringS_L1b
  by_cases hi : i < a.length
  ·rw [if_pos (by omega), nth_nat, h i hi, g8, mtx_eq i (by omega) k h3, g8, if_pos rfl, j5 (by omega), j5 (by omega)]
   exact hgo (k + 1, (i : Int) + 1) ⟨⟨by show (0 : Int) ≤ (i : Int) + 1; omega, by show (i : Int) + 1 ≤ _; omega⟩, by show k + 1 = 1 + ((i : Int) + 1); omega⟩ (by show a.length - ((i : Int) + 1).toNat < a.length - (i : Int).toNat; omega)
  ·rw [if_neg (by omega)]
   exact ⟨_, rfl, by omega⟩
def fiT (x : PInstr) : List UInt8 := (i_FormatInstr x).getD []
theorem fiT_eq {x : PInstr} (hw : wD x.d ≤ 1048576) : i_FormatInstr x = some (fiT x) ∧ s_FormatInstr x = some (fiT x) := by
 obtain ⟨t, e1, e2, _⟩ := FormatInstr_eq x hw
 have : fiT x = t := by unfold fiT; rw [e1]; rfl
 rw [this]; exact ⟨e1, e2⟩
def headT (c : PCode) : List UInt8 := [99, 111, 100, 101, 32] ++ itoa c.params ++ [32] ++ itoa c.slots ++ [32] ++ itoa c.captures
def codeT (c : PCode) : LL := headT c :: c.instrs.map fiT
def linesT (cs : List PCode) : LL := cs.flatMap codeT
theorem L8 (c : PCode) (r : List PCode) : linesT (c :: r) = codeT c ++ linesT r := by unfold linesT; rw [List.flatMap_cons]
theorem bJ : ∀ cs : List PCode, (linesT cs).length ≤ wts wC cs
 | [] => by simp [linesT]
 | c :: r => by
  have h := bJ r
  rw [L8]
  have h1 : wts wC (c :: r) = 1 + wC c + wts wC r := by unfold wts; simp; omega
  have h2 : wC c = c.instrs.length + (c.instrs.map wI).sum := rfl
  rw [h1, List.length_append]
  unfold codeT
  simp only [List.length_cons, List.length_map]
  omega
def numsOK (c : PCode) : Prop := (-999999999 ≤ c.params ∧ c.params ≤ 999999999) ∧ (-999999999 ≤ c.slots ∧ c.slots ≤ 999999999) ∧ (-999999999 ≤ c.captures ∧ c.captures ≤ 999999999)
theorem bG {m : PImage} {n : Int} (h : isImg m n = true) : ∀ c ∈ m.codes, numsOK c := by
 intro c hc
 unfold isImg at h
 simp only [Bool.and_eq_true] at h
 have hk := h.2.2.2.2.1
 obtain ⟨k, hk1, hk2⟩ := List.getElem_of_mem hc
 unfold codesOK at hk
 have h1 := List.all_eq_true.1 hk k (List.mem_range.2 hk1)
 rw [Bool.and_eq_true] at h1
 have h2 := h1.1
 unfold codeOKs at h2
 rw [Bool.and_eq_true] at h2
 have h3 := h2.1
 have e : m.codes.getD k default = c := by simp [List.getD, List.getElem?_eq_getElem hk1, hk2]
 rw [e] at h3
 unfold headOK inside at h3
 simp only [Bool.and_eq_true, decide_eq_true_eq] at h3
 unfold numsOK
 omega
theorem lines_inner {FI : PInstr → Option (List UInt8)} {L : (Int × LL → Option LL) → Int × LL → Option LL} (c : PCode) (k : LL → Option LL) (N : Nat) (hN : N ≤ 100000000) (hI : ∀ x ∈ c.instrs, FI x = some (fiT x)) (out : LL) (ho : out.length + c.instrs.length ≤ N)
 (hL : ∀ go (x9 : Int) (out10 : LL), L go (x9, out10) = if x9 < (c.instrs.length : Int) then
  bnd (nth c.instrs x9) fun x12 => bnd (FI x12) fun x13 => chk ((out10.length + ([x13] : LL).length) * 16 ≤ 140737488355328) <| chk (I64 (x9 + 1)) <| go ((x9 + 1), (out10 ++ ([x13] : LL)))
 else k out10) : itr L LF (0, out) = k (out ++ c.instrs.map fiT) := by
 rw [u5 (L := L) c.instrs.length (fun i a => a.length = out.length + i) (fun i a => k (a ++ (c.instrs.drop i).map fiT)) (by omega) (fun go i a hi ha hgo => ?_) (fun go a ha => ?_) (by simp)]
 ·rfl
 ·rw [hL, if_pos (by omega), o6 hi, g8, hI _ (List.getElem_mem hi), g8, j5 (by simp; omega), j5 (show -9223372036854775808 ≤ (i : Int) + 1 ∧ (i : Int) + 1 ≤ 9223372036854775807 by omega), hgo _ (by simp; omega), List.drop_eq_getElem_cons hi, List.map_cons]
  simp
 ·rw [hL, if_neg (by omega), List.drop_length]; simp
theorem Y2 {FN : Int → Option (List UInt8)} {FI : PInstr → Option (List UInt8)} {L1 : (Int × LL → Option LL) → Int × LL → Option LL} {L2 : Int → (Int × LL → Option LL) → PCode → (Int × LL → Option LL) → Int × LL → Option LL} (m : PImage) (hw : wM m ≤ 1048576)
 (hn : ∀ c ∈ m.codes, numsOK c) (hI : ∀ c ∈ m.codes, ∀ x ∈ c.instrs, FI x = some (fiT x)) (hN : ∀ n : Int, -999999999 ≤ n ∧ n ≤ 999999999 → FN n = some (itoa n))
 (hL2 : ∀ (x2 : Int) go4 (c : PCode) go (x9 : Int) (out10 : LL), L2 x2 go4 c go (x9, out10) = if x9 < (c.instrs.length : Int) then
  bnd (nth c.instrs x9) fun x12 => bnd (FI x12) fun x13 => chk ((out10.length + ([x13] : LL).length) * 16 ≤ 140737488355328) <| chk (I64 (x9 + 1)) <| go ((x9 + 1), (out10 ++ ([x13] : LL)))
 else chk (I64 (x2 + 1)) <| go4 ((x2 + 1), out10))
 (hL1 : ∀ go4 (x2 : Int) (out3 : LL), L1 go4 (x2, out3) = if x2 < (m.codes.length : Int) then
  bnd (nth m.codes x2) fun x5 =>
  bnd (FN x5.params) fun x6 =>
  chk (([99, 111, 100, 101, 32] : List UInt8).length + x6.length ≤ 9223372036854775807) <|
  chk ((([99, 111, 100, 101, 32] : List UInt8) ++ x6).length + ([32] : List UInt8).length ≤ 9223372036854775807) <|
  bnd (FN x5.slots) fun x7 =>
  chk (((([99, 111, 100, 101, 32] : List UInt8) ++ x6) ++ ([32] : List UInt8)).length + x7.length ≤ 9223372036854775807) <|
  chk ((((([99, 111, 100, 101, 32] : List UInt8) ++ x6) ++ ([32] : List UInt8)) ++ x7).length + ([32] : List UInt8).length ≤ 9223372036854775807) <|
  bnd (FN x5.captures) fun x8 =>
  chk (((((([99, 111, 100, 101, 32] : List UInt8) ++ x6) ++ ([32] : List UInt8)) ++ x7) ++ ([32] : List UInt8)).length + x8.length ≤ 9223372036854775807) <|
  chk ((out3.length + ([(((((([99, 111, 100, 101, 32] : List UInt8) ++ x6) ++ ([32] : List UInt8)) ++ x7) ++ ([32] : List UInt8)) ++ x8)] : List (List UInt8)).length) * 16 ≤ 140737488355328) <|
  itr (L2 x2 go4 x5) LF (0, (out3 ++ ([(((((([99, 111, 100, 101, 32] : List UInt8) ++ x6) ++ ([32] : List UInt8)) ++ x7) ++ ([32] : List UInt8)) ++ x8)] : List (List UInt8))))
 else some out3) : itr L1 LF (0, []) = some (linesT m.codes) := by
 have hm : wM m = wts wC m.codes := rfl
 have hcl : m.codes.length ≤ wts wC m.codes := by unfold wts; omega
 have htot := bJ m.codes
 rw [u5 (L := L1) m.codes.length (fun i a => a.length + (linesT (m.codes.drop i)).length = (linesT m.codes).length) (fun i a => some (a ++ linesT (m.codes.drop i))) (by omega) (fun go i a hi ha hgo => ?_) (fun go a ha => ?_) (by simp)]
 ·simp
 ·have hc := List.getElem_mem hi
  obtain ⟨n1, n2, n3⟩ := hn _ hc
  have l1 := A9 _ n1
  have l2 := A9 _ n2
  have l3 := A9 _ n3
  rw [List.drop_eq_getElem_cons hi, L8] at ha ⊢
  have hcd : (codeT m.codes[i]).length = 1 + m.codes[i].instrs.length := by unfold codeT; simp; omega
  rw [List.length_append, hcd] at ha
  rw [hL1, if_pos (by omega), o6 hi, g8, hN _ n1, g8, j5 (by simp; omega), j5 (by simp; omega), hN _ n2, g8, j5 (by simp; omega), j5 (by simp; omega), hN _ n3, g8, j5 (by simp; omega), j5 (by simp; omega)]
  rw [lines_inner (L := L2 (i : Int) go m.codes[i]) (FI := FI) m.codes[i] (fun o => chk (I64 ((i : Int) + 1)) <| go (((i : Int) + 1), o)) 100000000 (Nat.le_refl _) (hI _ hc) _ (by simp; omega) (fun go' x9 o => hL2 _ _ _ _ _ _)]
  rw [j5 (show -9223372036854775808 ≤ (i : Int) + 1 ∧ (i : Int) + 1 ≤ 9223372036854775807 by omega), hgo _ (by simp; omega)]
  unfold codeT headT
  simp
 ·rw [hL1, if_neg (by omega), List.drop_length]; simp [linesT]
theorem wM_instr {m : PImage} (hw : wM m ≤ 1048576) {c : PCode} (hc : c ∈ m.codes) {x : PInstr} (hx : x ∈ c.instrs) : wD x.d ≤ 1048576 := by
 have h1 := I4 (wt := wC) hc
 have h2 := I4 (wt := wI) hx
 have e1 : wM m = m.codes.length + wsum wC m.codes := rfl
 have e2 : wC c = c.instrs.length + wsum wI c.instrs := rfl
 have e3 : wI x = wD x.d := rfl
 omega
theorem X5 (m : PImage) (hw : wM m ≤ 1048576) (hn : ∀ c ∈ m.codes, numsOK c) : i_imageLines m = some (linesT m.codes) := by
 unfold i_imageLines
 exact Y2 (FN := i_FormatNumber) (FI := i_FormatInstr) (L1 := i_imageLines_L1 m) (L2 := i_imageLines_L2) m hw hn (fun c hc x hx => (fiT_eq (wM_instr hw hc hx)).1) (fun n h => w9 n h) (fun x2 go4 c go x9 o => rfl) (fun go4 x2 o => rfl)
theorem dO (m : PImage) (hw : wM m ≤ 1048576) (hn : ∀ c ∈ m.codes, numsOK c) : s_l10Lines m = some (linesT m.codes) := by
 unfold s_l10Lines
 exact Y2 (FN := s_FormatNumber) (FI := s_FormatInstr) (L1 := s_l10Lines_L1 m) (L2 := s_l10Lines_L2) m hw hn (fun c hc x hx => (fiT_eq (wM_instr hw hc hx)).2) (fun n h => u4 n h) (fun x2 go4 c go x9 o => rfl) (fun go4 x2 o => rfl)
end Go.Abs
