
import Derived.Test.YtmgigglpdhoneaaGreatLibT
set_option linter.unusedVariables false
set_option linter.unusedSimpArgs false
namespace Go.Abs
open PCore
def putAll (m : List (Int × Int)) (l : List Int) : List (Int × Int) := l.foldl (fun m n => mput m n 1) m
theorem mget_put (m : List (Int × Int)) (n v k : Int) : mget (mput m n v) k = if k = n then v else mget m k := by
 unfold mget
 induction m with
 | nil =>
  by_cases h : k = n
  ·simp [mput, mlook, h]
  ·simp [mput, mlook, h]
 | cons p r ih =>
  by_cases h : n = p.1
  ·by_cases h2 : k = n
   ·simp [mput, mlook, h, h2]
   ·have : ¬ k = p.1 := fun e => h2 (e.trans h.symm)
    simp [mput, mlook, h, this]
  ·simp only [mput, if_neg h, mlook]
   by_cases h2 : k = p.1
   ·have : ¬ k = n := fun e => h (e.symm.trans h2)
    simp [h2, Ne.symm h]
   ·simp only [if_neg h2]; exact ih
theorem cK : ∀ (l : List Int) (m : List (Int × Int)) (k : Int), mget (putAll m l) k = if l.contains k = true then 1 else mget m k
 | [], m, k => rfl
 | n :: l, m, k => by
  show mget (putAll (mput m n 1) l) k = _
  rw [cK l, mget_put, List.contains_cons]
  by_cases h1 : l.contains k = true
  ·rw [if_pos h1, if_pos (by rw [h1, Bool.or_true])]
  ·by_cases h2 : k = n
   ·simp [h2]
   ·have : ¬ (k == n) = true := by simpa using h2
    rw [if_neg h1, if_neg h2, if_neg (by simp only [Bool.or_eq_true, not_or]; exact ⟨this, h1⟩)]
theorem putAll_app (m : List (Int × Int)) (a b : List Int) : putAll m (a ++ b) = putAll (putAll m a) b := by unfold putAll; rw [List.foldl_append]
theorem i_setOf_eq (ls : List (List Int)) (h : ls.length ≤ 1048576) (hl : ∀ l ∈ ls, l.length ≤ 1000000000000) : i_setOf ls = some (putAll [] ls.flatten) := by
 unfold i_setOf
 rw [y9 (L := i_setOf_L1 ls) ls.length (fun i m => m = putAll [] (ls.take i).flatten) (fun _ _ => some (putAll [] ls.flatten)) (by omega) (fun go i m hi hm hgo => ?_) (fun go m hm => ?_) (by simp [putAll])]
 ·show i_setOf_L1b ls go i m = _
  unfold i_setOf_L1b
  subst hm
  rw [if_pos (by omega), r8 hi, i9]
  have hli := hl _ (List.getElem_mem hi)
  rw [y9 (L := i_setOf_L2 (i : Int) go ls[i]) ls[i].length (fun j m => m = putAll [] ((ls.take i).flatten ++ ls[i].take j)) (fun _ _ => some (putAll [] ls.flatten)) (by omega) (fun go2 j m hj hm hgo2 => ?_) (fun go2 m hm => ?_) (by simp)]
  ·show i_setOf_L2b (i : Int) go ls[i] go2 j m = _
   unfold i_setOf_L2b
   subst hm
   rw [if_pos (by omega), r8 hj, i9, o3 (by omega)]
   refine hgo2 _ ?_
   rw [List.take_add_one, List.getElem?_eq_getElem hj, ← List.append_assoc]
   exact (putAll_app [] _ [ls[i][j]]).symm
  ·show i_setOf_L2b (i : Int) go ls[i] go2 _ m = _
   unfold i_setOf_L2b
   subst hm
   rw [if_neg (by omega), o3 (by omega)]
   refine hgo _ ?_
   rw [List.take_add_one, List.getElem?_eq_getElem hi, List.take_length, List.flatten_append]; simp
 ·show i_setOf_L1b ls go _ m = _
  unfold i_setOf_L1b
  subst hm
  rw [if_neg (by omega), List.take_length]
def simpleIn (b : List Int) (c : PCore) : Bool := isAt c || (decide (c.kind = 3) || (decide (c.kind = 2) && !b.contains c.number))
theorem bW (c : PCore) (b : List Int) (m : List (Int × Int)) (hm : ∀ k, mget m k = if b.contains k = true then 1 else 0) : i_simpleTerm c m = some (simpleIn b c) := by
 unfold i_simpleTerm simpleIn
 rw [R2, i9, hm]
 cases isAt c <;> by_cases h3 : c.kind = 3 <;> by_cases h2 : c.kind = 2 <;> cases b.contains c.number <;> simp [h2, h3]
theorem fZ (c : PCore) (b : List Int) (hb : b.length ≤ 1000000000000) : s_l9Simple c b = some (simpleIn b c) := by
 unfold s_l9Simple simpleIn
 rw [R7, i9, A5 _ _ (by omega), i9]
 cases isAt c <;> by_cases h3 : c.kind = 3 <;> by_cases h2 : c.kind = 2 <;> cases b.contains c.number <;> simp [h2, h3]
theorem simple_kids {b : List Int} {c : PCore} (hv : okAll c = true) (h : simpleIn b c = true) : c.kids = [] := by
 have hs := Q2 hv
 unfold shapeOK at hs
 have hl : (c.kids.length : Int) = 0 := by
  by_cases k1 : c.kind = 1
  ·rw [if_pos k1] at hs; simp only [Bool.and_eq_true, decide_eq_true_eq] at hs; exact hs.2.2.2.1
  ·by_cases k2 : c.kind = 2
   ·rw [if_neg k1, if_pos k2] at hs; simp only [Bool.and_eq_true, decide_eq_true_eq] at hs; exact hs.2.2.2
   ·have k3 : c.kind = 3 := by
     unfold simpleIn isAt at h
     simpa [k1, k2] using h
    rw [if_neg k1, if_neg k2, if_pos k3] at hs; simp only [Bool.and_eq_true, decide_eq_true_eq] at hs; exact hs.2.2.2.1
 exact List.length_eq_zero_iff.1 (by omega)
def betaB (b : PCore) (ps : List Int) (ks : List PCore) : PCore := (ps.zip ks).foldl (fun b p => subst p.1 p.2 b) b
def betaOK (bx : List Int) (ps : List Int) (ks : List PCore) : Bool := (ps.zip ks).all fun p => !bx.contains p.1 && simpleIn bx p.2
def betaR (c : PCore) (bx : List Int) : PCore × Bool := match c.kids with
 | [] => failR
 | f :: ks => if f.kind = 5 ∧ f.params.length = ks.length then (if betaOK bx f.params ks = true then (match f.kids with | [] => failR | b :: _ => (betaB b f.params ks, true)) else failR) else failR
theorem zip_take {α β : Type} : ∀ (a : List α) (b : List β) (i : Nat) (ha : i < a.length) (hb : i < b.length), (a.zip b).take (i + 1) = (a.zip b).take i ++ [(a[i], b[i])]
 | a, b, i, ha, hb => by
  have h : i < (a.zip b).length := by simp; omega
  rw [List.take_add_one, List.getElem?_eq_getElem h]
  simp
theorem zip_drop {α β : Type} (a : List α) (b : List β) (i : Nat) (ha : i < a.length) (hb : i < b.length) : (a.zip b).drop i = (a[i], b[i]) :: (a.zip b).drop (i + 1) := by
 have h : i < (a.zip b).length := by simp; omega
 rw [List.drop_eq_getElem_cons h]
 simp
theorem J0 {α β : Type} : ∀ (i : Nat) (a : List α) (b : List β), (a.zip b).take i = (a.take i).zip (b.take i)
 | 0, _, _ => rfl
 | i + 1, [], b => by simp
 | i + 1, a :: as, [] => by simp
 | i + 1, a :: as, b :: bs => by simp [J0 i as bs]
structure Fine (n : Nat) (b : PCore) : Prop where
 nice : b.nice
 cnt : b.cnt ≤ 3000
 w : wK b ≤ 1048576 + n * 3146776576
theorem beta_fine {b s : PCore} {n : Nat} (x : Int) (hb : Fine n b) (hs : s.nice) (hk : s.kids = []) (hw : wK s ≤ 1048576) : Fine (n + 1) (subst x s b) := by
 have hc : s.cnt = 0 := by rw [cnt_eq, hk]; rfl
 have h1 := (subst_nice x s hs).1 b hb.nice
 have h2 := (subst_cnt x s hc).1 b
 have h3 := (subst_wK x s).1 b
 have h4 : (1 + b.cnt) * wK s ≤ 3001 * 1048576 := Nat.mul_le_mul (by have := hb.cnt; omega) hw
 have h5 := hb.cnt
 have h6 := hb.w
 exact ⟨h1, by omega, by omega⟩
structure Arg (x : PCore) : Prop where
 nice : x.nice
 w : wK x ≤ 1048576
 ok : okAll x = true
theorem O6 {bx : List Int} : ∀ (ps : List Int) (ks : List PCore) (b : PCore) (n : Nat), Fine n b → (∀ x ∈ ks, Arg x) → betaOK bx ps ks = true → Fine (n + ps.length) (betaB b ps ks)
 | [], _, b, n, h, _, _ => h
 | p :: ps, [], b, n, h, _, _ => by
  have : betaB b (p :: ps) [] = b := rfl
  rw [this]
  exact ⟨h.nice, h.cnt, Nat.le_trans h.w (Nat.add_le_add_left (Nat.mul_le_mul_right _ (Nat.le_add_right _ _)) _)⟩
 | p :: ps, k :: ks, b, n, h, ha, ho => by
  have ho' : (!bx.contains p && simpleIn bx k) = true ∧ betaOK bx ps ks = true := by simpa [betaOK] using ho
  have ak := ha k (by simp)
  have hs : simpleIn bx k = true := by have := ho'.1; rw [Bool.and_eq_true] at this; exact this.2
  have := O6 ps ks (subst p k b) (n + 1) (beta_fine p h ak.nice (simple_kids ak.ok hs) ak.w) (fun x hx => ha x (by simp [hx])) ho'.2
  rw [show n + 1 + ps.length = n + (p :: ps).length by simp; omega] at this
  exact this
theorem shape5 {f : PCore} (hv : okAll f = true) (h5 : f.kind = 5) : f.params.length ≤ 8 ∧ ∃ b, f.kids = [b] := by
 have hs := Q2 hv
 unfold shapeOK at hs
 rw [if_neg (by omega), if_neg (by omega), if_neg (by omega), if_neg (by omega), if_pos h5] at hs
 simp only [Bool.and_eq_true, decide_eq_true_eq] at hs
 have h1 : (f.params.length : Int) ≤ 8 := by first | exact hs.2.2.1 | exact hs.2.2.2
 have h2 : (f.kids.length : Int) = 1 := by first | exact hs.2.2.2 | exact hs.2.2.1
 exact ⟨by omega, List.length_eq_one_iff.1 (by omega)⟩
theorem gI {R : Type} {L : (Int → Option R) → Int → Option R} (c : PCore) (f : PCore) (ks : List PCore) (hk : c.kids = f :: ks) (hl : f.params.length = ks.length) (h8 : f.params.length ≤ 8) (bx : List Int) (B : Int → Option Bool) (S : PCore → Option Bool) (fl : R) (E : Option R)
 (hB : ∀ n, B n = some (bx.contains n)) (hS : ∀ x, S x = some (simpleIn bx x))
 (hL : ∀ go (i : Int), L go i = if i < (f.params.length : Int) then bnd (nth f.params i) fun n => bnd (B n) fun t => if t = true then some fl else chk (I64 (i + 1)) <| bnd (nth c.kids (i + 1)) fun x => bnd (S x) fun t => if t = true then chk (I64 (i + 1)) <| go (i + 1) else some fl else E) :
 itr L LF 0 = if betaOK bx f.params ks = true then E else some fl := by
 rw [I7 (L := L) f.params.length (fun i => if ((f.params.zip ks).drop i).all (fun p => !bx.contains p.1 && simpleIn bx p.2) = true then E else some fl) (by omega) (fun go i hi hgo => ?_) (fun go => ?_)]
 ·rfl
 ·have hi2 : i < ks.length := by omega
  have hn : nth c.kids ((i : Int) + 1) = some ks[i] := by
   rw [hk, show ((i : Int) + 1) = ((i + 1 : Nat) : Int) by omega, r8 (by simp; omega)]; simp
  rw [hL, if_pos (by omega), r8 hi, i9, hB, i9, zip_drop _ _ _ hi hi2, List.all_cons]
  cases h1 : bx.contains f.params[i]
  ·rw [if_neg (by simp), o3 (by omega), hn, i9, hS, i9]
   cases h2 : simpleIn bx ks[i]
   ·simp
   ·rw [if_pos rfl, o3 (by omega), hgo]; rfl
  ·simp
 ·rw [hL, if_neg (by omega), List.drop_eq_nil_of_le (by simp; omega)]; rfl
theorem s_l9Beta_eq (c : PCore) (bx : List Int) (hc : c.nice) (hw : wK c ≤ 1048576) (hcc : c.cnt ≤ 3000) (hv : okAll c = true) (hb : bx.length ≤ 1000000000000) (h6 : c.kind = 6) : s_l9Beta c bx = some (betaR c bx) := by
 unfold s_l9Beta betaR
 obtain ⟨f, ks, hk⟩ := cE hv h6
 have hn := ((t6 c).1 hc).2.2.1
 have n0 : nth c.kids 0 = some f := by rw [hk]; rfl
 have hlen : c.kids.length = ks.length + 1 := by rw [hk]; rfl
 rw [if_pos h6, n0, i9]
 simp only [hk]
 by_cases h5 : f.kind = 5
 ·have hf : okAll f = true := G4 (ks := c.kids) (by rw [okAll_eq, Bool.and_eq_true] at hv; exact hv.2) (by rw [hk]; simp)
  obtain ⟨p8, b, hfk⟩ := shape5 hf h5
  rw [if_pos h5, i9, o3 (by simp; omega)]
  by_cases hl : f.params.length = ks.length
  ·rw [if_pos (by simp; omega), i9, if_pos ⟨h5, hl⟩]
   rw [gI (L := s_l9Beta_L1 c bx f) c f ks hk hl p8 bx (fun n => s_HasScope bx n) (fun x => s_l9Simple x bx) failR (bnd (nth f.kids 0) fun x8 => bnd (s_l5Copy RF x8) fun x9 => itr (s_l9Beta_L2 c f) LF (0, x9)) (fun n => A5 _ _ (by omega)) (fun x => fZ x bx hb) (fun go i => rfl)]
   by_cases ho : betaOK bx f.params ks = true
   ·rw [if_pos ho, if_pos ho, hfk]
    have hfin : f ∈ c.kids := by rw [hk]; simp
    have hbm : b ∈ f.kids := by rw [hfk]; simp
    have nf := s8 hc hfin
    have nb := s8 nf hbm
    have c1 := H0 hfin
    have c2 := H0 hbm
    have w1 := E3 hfin
    have w2 := E3 hbm
    have w3 := G9 c
    have w4 := G9 f
    have fb : Fine 0 b := ⟨nb, by omega, by omega⟩
    have ha : ∀ x ∈ ks, Arg x := fun x hx => by
     have hm : x ∈ c.kids := by rw [hk]; simp [hx]
     have := E3 hm
     exact ⟨s8 hc hm, by omega, G4 (ks := c.kids) (by rw [okAll_eq, Bool.and_eq_true] at hv; exact hv.2) hm⟩
    have n00 : nth [b] 0 = some b := rfl
    rw [n00, i9, D9 RF b (RF_cntK (by omega)) nb, i9]
    dsimp only
    rw [y9 (L := s_l9Beta_L2 c f) f.params.length (fun i o => o = betaB b (f.params.take i) (ks.take i)) (fun _ _ => some (betaB b f.params ks, true)) (by omega) (fun go i o hi hi2 hgo => ?_) (fun go o ho2 => ?_) (by simp [betaB])]
    ·show s_l9Beta_L2b c f go i o = _
     unfold s_l9Beta_L2b
     have hik : i < ks.length := by omega
     have hnx : nth c.kids ((i : Int) + 1) = some ks[i] := by
      rw [hk, show ((i : Int) + 1) = ((i + 1 : Nat) : Int) by omega, r8 (by simp; omega)]; simp
     have hok : betaOK bx (f.params.take i) (ks.take i) = true := by
      unfold betaOK at ho ⊢
      rw [← J0]
      rw [List.all_eq_true] at ho ⊢
      exact fun p hp => ho p (List.mem_of_mem_take hp)
     have fi := O6 (bx := bx) (f.params.take i) (ks.take i) b 0 fb (fun x hx => ha x (List.mem_of_mem_take hx)) hok
     have ak := ha ks[i] (List.getElem_mem hik)
     have hsk : simpleIn bx ks[i] = true := by
      unfold betaOK at ho
      rw [List.all_eq_true] at ho
      have := ho (f.params[i], ks[i]) (by rw [List.mem_iff_getElem]; exact ⟨i, by simp; omega, by simp⟩)
      rw [Bool.and_eq_true] at this
      exact this.2
     have hkc : (ks[i]).cnt ≤ 1048576 := by have := K4.1 ks[i]; have := ak.w; omega
     subst hi2
     rw [if_pos (by omega), r8 hi, i9, o3 (by omega), hnx, i9, K6 _ _ ak.nice hkc RF _ (RF_cntK (by have := fi.cnt; omega)) fi.nice (by have := fi.cnt; omega), i9, o3 (by omega)]
     refine hgo _ ?_
     unfold betaB
     rw [← J0, ← J0, zip_take _ _ _ hi hik, List.foldl_append]; rfl
    ·show s_l9Beta_L2b c f go _ o = _
     unfold s_l9Beta_L2b
     subst ho2
     rw [if_neg (by omega), List.take_length, show ks.take f.params.length = ks by rw [hl, List.take_length]]
   ·rw [if_neg ho, if_neg ho]
  ·rw [if_neg (by simp; omega), if_neg (fun h => hl h.2)]; rfl
 ·rw [if_neg h5, if_neg (fun h => h5 h.1)]; rfl
def pk (a : Int × Int × Int × Int × List UInt8 × List Int × List PDat × List PCore) : PCore := match a with
 | (k, n, dk, dn, dt, p, di, ks) => PCore.mk k n p (PDat.mk dk dn dt di) ks
def upk (c : PCore) : Int × Int × Int × Int × List UInt8 × List Int × List PDat × List PCore := (c.kind, c.number, c.datum.kind, c.datum.number, c.datum.text, c.params, c.datum.items, c.kids)
theorem pk_upk (c : PCore) : pk (upk c) = c := by obtain ⟨k, n, p, d, ks⟩ := c; obtain ⟨a, b, t, i⟩ := d; rfl
theorem i_beta_eq (c : PCore) (bx : List Int) (m : List (Int × Int)) (hm : ∀ k, mget m k = if bx.contains k = true then 1 else 0) (hc : c.nice) (hw : wK c ≤ 1048576) (hcc : c.cnt ≤ 3000) (hv : okAll c = true) (f : PCore) (ks : List PCore) (hk : c.kids = f :: ks) (h5 : f.kind = 5) (hl : f.params.length = ks.length) :
 itr (i_simplified_L1 c m f) LF 0 = some (betaR c bx) := by
 unfold betaR
 simp only [hk]
 have hn := ((t6 c).1 hc).2.2.1
 have hkl : ks.length + 1 ≤ 1048576 := by rw [hk] at hn; simpa using hn
 have hf : okAll f = true := G4 (ks := c.kids) (by rw [okAll_eq, Bool.and_eq_true] at hv; exact hv.2) (by rw [hk]; simp)
 obtain ⟨p8, b, hfk⟩ := shape5 hf h5
 rw [if_pos ⟨h5, hl⟩]
 rw [gI (L := i_simplified_L1 c m f) c f ks hk hl p8 bx (fun n => some (bx.contains n)) (fun x => i_simpleTerm x m) failR (bnd (nth f.kids 0) fun x7 => bnd (i_copyCore RF x7) fun x8 => itr (i_simplified_L2 c f) LF (0, upk x8)) (fun n => rfl) (fun x => bW x bx m hm) (fun go i => by
  show i_simplified_L1b c m f go i = _
  unfold i_simplified_L1b
  by_cases hi : i < (f.params.length : Int)
  ·rw [if_pos hi, if_pos hi]
   congr 1
   funext n
   rw [hm, i9]
   cases bx.contains n <;> rfl
  ·rw [if_neg hi, if_neg hi]; rfl)]
 by_cases ho : betaOK bx f.params ks = true
 ·rw [if_pos ho, if_pos ho, hfk]
  have hfin : f ∈ c.kids := by rw [hk]; simp
  have hbm : b ∈ f.kids := by rw [hfk]; simp
  have nf := s8 hc hfin
  have nb := s8 nf hbm
  have c1 := H0 hfin
  have c2 := H0 hbm
  have w1 := E3 hfin
  have w2 := E3 hbm
  have w3 := G9 c
  have w4 := G9 f
  have fb : Fine 0 b := ⟨nb, by omega, by omega⟩
  have ha : ∀ x ∈ ks, Arg x := fun x hx => by
   have hm : x ∈ c.kids := by rw [hk]; simp [hx]
   have := E3 hm
   exact ⟨s8 hc hm, by omega, G4 (ks := c.kids) (by rw [okAll_eq, Bool.and_eq_true] at hv; exact hv.2) hm⟩
  have n00 : nth [b] 0 = some b := rfl
  rw [n00, i9, A4 RF b (RF_cntK (by omega)) nb, i9]
  dsimp only
  rw [y9 (L := i_simplified_L2 c f) f.params.length (fun i o => pk o = betaB b (f.params.take i) (ks.take i)) (fun _ _ => some (betaB b f.params ks, true)) (by omega) (fun go i o hi hi2 hgo => ?_) (fun go o ho2 => ?_) (by rw [pk_upk]; rfl)]
  ·obtain ⟨k, n, dk, dn, dt, p, di, kk⟩ := o
   show i_simplified_L2b c f go i k n dk dn dt p di kk = _
   unfold i_simplified_L2b
   have hik : i < ks.length := by omega
   have hnx : nth c.kids ((i : Int) + 1) = some ks[i] := by
    rw [hk, show ((i : Int) + 1) = ((i + 1 : Nat) : Int) by omega, r8 (by simp; omega)]; simp
   have hok : betaOK bx (f.params.take i) (ks.take i) = true := by
    unfold betaOK at ho ⊢
    rw [← J0]
    rw [List.all_eq_true] at ho ⊢
    exact fun p hp => ho p (List.mem_of_mem_take hp)
   have fi := O6 (bx := bx) (f.params.take i) (ks.take i) b 0 fb (fun x hx => ha x (List.mem_of_mem_take hx)) hok
   have ak := ha ks[i] (List.getElem_mem hik)
   have hkc : (ks[i]).cnt ≤ 1048576 := by have := K4.1 ks[i]; have := ak.w; omega
   have hi2' : PCore.mk k n p (PDat.mk dk dn dt di) kk = betaB b (f.params.take i) (ks.take i) := hi2
   rw [if_pos (by omega), r8 hi, i9, o3 (by omega), hnx, i9, hi2', M9 _ _ ak.nice hkc RF _ (RF_cntK (by have := fi.cnt; omega)) fi.nice, i9, o3 (by omega)]
   refine hgo (upk _) ?_
   rw [pk_upk]
   unfold betaB
   rw [← J0, ← J0, zip_take _ _ _ hi hik, List.foldl_append]; rfl
  ·obtain ⟨k, n, dk, dn, dt, p, di, kk⟩ := o
   show i_simplified_L2b c f go _ k n dk dn dt p di kk = _
   unfold i_simplified_L2b
   have ho2' : PCore.mk k n p (PDat.mk dk dn dt di) kk = betaB b (f.params.take f.params.length) (ks.take f.params.length) := ho2
   rw [if_neg (by omega), ho2', List.take_length, show ks.take f.params.length = ks by rw [hl, List.take_length]]
 ·rw [if_neg ho, if_neg ho]
def idle (x : PCore) : Bool := decide (x.kind = 1) || (decide (x.kind = 3) || decide (x.kind = 5))
theorem idle1 {x : PCore} (h : x.kind = 1) : idle x = true := by unfold idle; rw [h]; rfl
theorem idle3 {x : PCore} (h : x.kind = 3) : idle x = true := by unfold idle; rw [h]; rfl
theorem idle5 {x : PCore} (h : x.kind = 5) : idle x = true := by unfold idle; rw [h]; rfl
theorem idle0 {x : PCore} (h1 : ¬ x.kind = 1) (h3 : ¬ x.kind = 3) (h5 : ¬ x.kind = 5) : idle x = false := by unfold idle; rw [decide_eq_false h1, decide_eq_false h3, decide_eq_false h5]; rfl
def keeps (n : Nat) (l : List PCore) : List PCore := (l.zipIdx.filter fun p => decide (p.2 + 1 = n) || !idle p.1).map (·.1)
theorem eF (n : Nat) (l : List PCore) (i : Nat) (h : i < l.length) : keeps n (l.take (i + 1)) = keeps n (l.take i) ++ (if (decide (i + 1 = n) || !idle l[i]) = true then [l[i]] else []) := by
 unfold keeps
 rw [List.take_add_one, List.getElem?_eq_getElem h, List.zipIdx_append, List.filter_append, List.map_append]
 congr 1
 have e : (l.take i).length = i := by simp; omega
 simp only [Option.toList_some, List.zipIdx_cons, List.zipIdx_nil, e, Nat.zero_add]
 by_cases hc : (decide (i + 1 = n) || !idle l[i]) = true
 ·rw [if_pos hc, List.filter_cons_of_pos (by simpa using hc)]; rfl
 ·rw [if_neg hc, List.filter_cons_of_neg (by simpa using hc)]; rfl
theorem iE {n : Nat} {l : List PCore} {x : PCore} (h : x ∈ keeps n l) : x ∈ l := by
 unfold keeps at h
 obtain ⟨p, hp, rfl⟩ := List.mem_map.1 h
 exact List.fst_mem_of_mem_zipIdx (List.mem_filter.1 hp).1
theorem N4 (n : Nat) (l : List PCore) : (keeps n l).length ≤ l.length := by
 unfold keeps
 rw [List.length_map]
 exact Nat.le_trans (List.length_filter_le _ _) (by simp)
theorem keeps_w (n : Nat) : ∀ (l : List PCore) (k : Nat), wKs ((((l.zipIdx k).filter fun p => decide (p.2 + 1 = n) || !idle p.1).map (·.1))) ≤ wKs l
 | [], _ => by simp
 | x :: l, k => by
  have ih := keeps_w n l (k + 1)
  rw [List.zipIdx_cons]
  by_cases hc : (decide (k + 1 = n) || !idle x) = true
  ·rw [List.filter_cons_of_pos (by simpa using hc), List.map_cons]
   show 1 + wK x + wKs _ ≤ 1 + wK x + wKs l
   omega
  ·rw [List.filter_cons_of_neg (by simpa using hc)]
   show wKs _ ≤ 1 + wK x + wKs l
   omega
def seqR (ks : List PCore) : PCore := match ks with
 | [x] => x
 | ks => PCore.mk 8 0 [] (PDat.mk 0 0 ([] : List UInt8) []) ks
theorem gA {ks : List PCore} (h : ks.length = 1) : nth ks 0 = some (seqR ks) := by
 obtain ⟨x, rfl⟩ := List.length_eq_one_iff.1 h; rfl
theorem dC {ks : List PCore} (h : ks.length ≠ 1) : seqR ks = PCore.mk 8 0 [] (PDat.mk 0 0 ([] : List UInt8) []) ks := by
 match ks, h with
 | [], _ => rfl
 | [x], h => exact absurd rfl h
 | _ :: _ :: _, _ => rfl
def dropR (c : PCore) : PCore × Bool := if (keeps c.kids.length c.kids).length = c.kids.length then failR else (seqR (keeps c.kids.length c.kids), true)
theorem s_l5Flat_eq (ks : List PCore) (h : ks.length ≤ 1048576) (h8 : ∀ x ∈ ks, x.kind ≠ 8) : s_l5Flat ks = some (seqR ks) := by
 unfold s_l5Flat
 rw [P7 (L := s_l5Flat_L1 ks) id (fun o => some (seqR o)) ks h (fun go i o hi ho => ?_) (fun go o => ?_)]
 ·rw [List.map_id]
 ·show s_l5Flat_L1b ks go i o = _
  unfold s_l5Flat_L1b s_l5Flat_J2
  rw [if_pos (by omega), r8 hi, i9, if_neg (h8 _ (List.getElem_mem hi)), o3 (by simp; omega), o3 (by omega)]; rfl
 ·show s_l5Flat_L1b ks go _ o = _
  unfold s_l5Flat_L1b
  rw [if_neg (by omega)]
  by_cases h1 : o.length = 1
  ·rw [if_pos (by omega), gA h1, i9]
  ·rw [if_neg (by omega), dC h1]
theorem s_l9Drop_eq (c : PCore) (hc : c.nice) (hcc : c.cnt ≤ 3000) (hv : okAll c = true) (h8 : c.kind = 8) : s_l9Drop c = some (seqR (keeps c.kids.length c.kids), decide ((keeps c.kids.length c.kids).length < c.kids.length)) := by
 unfold s_l9Drop
 have hn := ((t6 c).1 hc).2.2.1
 have hq : ∀ x ∈ c.kids, x.kind ≠ 8 := by
  rw [okAll_eq, Bool.and_eq_true, Bool.and_eq_true] at hv
  have := hv.1.2
  unfold seqOK at this
  rw [h8] at this
  simp only [decide_true, Bool.not_true, Bool.false_or, List.all_eq_true] at this
  exact fun x hx => by simpa using this x hx
 rw [if_pos h8]
 rw [y9 (L := s_l9Drop_L1 c) c.kids.length (fun i o => o = keeps c.kids.length (c.kids.take i)) (fun _ _ => some (seqR (keeps c.kids.length c.kids), decide ((keeps c.kids.length c.kids).length < c.kids.length))) (by omega) (fun go i o hi ho hgo => ?_) (fun go o ho => ?_) (by simp [keeps])]
 ·show s_l9Drop_L1b c go i o = _
  unfold s_l9Drop_L1b s_l9Drop_J3 s_l9Drop_J2
  have nk := s8 hc (List.getElem_mem hi)
  have ck := B1 hi
  have hol : o.length ≤ i := by subst ho; exact Nat.le_trans (N4 _ _) (by simp; omega)
  have hI : ∀ x : Option (PCore × Bool), chk (I64 ((i : Int) + 1)) x = x := fun x => o3 (by omega)
  rw [if_pos (by omega), r8 hi, i9, o3 (by omega), D9 RF _ (RF_cntK (by omega)) nk, i9, o3 (by simp; omega), hI, hI]
  have hg := hgo _ (eF c.kids.length c.kids i hi).symm
  rw [← ho] at hg
  by_cases hl : i + 1 = c.kids.length
  ·rw [if_pos (by omega), if_pos rfl]
   rw [decide_eq_true hl, Bool.true_or, if_pos rfl] at hg
   exact hg
  ·rw [if_neg (by omega)]
   rw [decide_eq_false hl, Bool.false_or] at hg
   by_cases k1 : (c.kids[i]).kind = 1
   ·rw [if_pos k1, if_neg (by decide)]
    rw [idle1 k1, if_neg (by decide), List.append_nil] at hg
    exact hg
   ·by_cases k3 : (c.kids[i]).kind = 3
    ·rw [if_neg k1, if_pos k3, if_neg (by decide)]
     rw [idle3 k3, if_neg (by decide), List.append_nil] at hg
     exact hg
    ·rw [if_neg k1, if_neg k3]
     by_cases k5 : (c.kids[i]).kind = 5
     ·rw [decide_eq_true k5, if_neg (by decide)]
      rw [idle5 k5, if_neg (by decide), List.append_nil] at hg
      exact hg
     ·rw [decide_eq_false k5, if_pos (by decide)]
      rw [idle0 k1 k3 k5, if_pos (by decide)] at hg
      exact hg
 ·show s_l9Drop_L1b c go _ o = _
  unfold s_l9Drop_L1b
  rw [List.take_length] at ho
  subst ho
  have hkl := N4 c.kids.length c.kids
  rw [if_neg (by omega), s_l5Flat_eq _ (by omega) (fun x hx => hq x (iE hx)), i9]
  congr 2
  rw [decide_eq_decide]; omega
theorem i_drop_eq (c : PCore) (hc : c.nice) (hcc : c.cnt ≤ 3000) : itr (i_simplified_L4 c) LF (0, []) = some (dropR c) := by
 have hn := ((t6 c).1 hc).2.2.1
 rw [y9 (L := i_simplified_L4 c) c.kids.length (fun i o => o = keeps c.kids.length (c.kids.take i)) (fun _ _ => some (dropR c)) (by omega) (fun go i o hi ho hgo => ?_) (fun go o ho => ?_) (by simp [keeps])]
 ·show i_simplified_L4b c go i o = _
  unfold i_simplified_L4b i_simplified_J6 i_simplified_J7 i_simplified_J5
  have nk := s8 hc (List.getElem_mem hi)
  have ck := B1 hi
  have hol : o.length ≤ i := by subst ho; exact Nat.le_trans (N4 _ _) (by simp; omega)
  rw [if_pos (by omega), r8 hi, i9, o3 (by omega), A4 RF _ (RF_cntK (by omega)) nk, i9, o3 (by simp; omega)]
  have hg := hgo _ (eF c.kids.length c.kids i hi).symm
  rw [← ho] at hg
  have hdl : decide (((i : Int) + 1) = (c.kids.length : Int)) = decide (i + 1 = c.kids.length) := by rw [decide_eq_decide]; omega
  have hI : ∀ x : Option (PCore × Bool), chk (I64 ((i : Int) + 1)) x = x := fun x => o3 (by omega)
  simp only [hdl, hI]
  by_cases hl : i + 1 = c.kids.length
  ·rw [decide_eq_true hl, Bool.true_or, if_pos rfl] at hg
   simp [hl, hg]
  ·rw [decide_eq_false hl, Bool.false_or] at hg
   by_cases k1 : (c.kids[i]).kind = 1
   ·rw [idle1 k1, if_neg (by decide), List.append_nil] at hg
    simp [hl, k1, hg]
   ·by_cases k3 : (c.kids[i]).kind = 3
    ·rw [idle3 k3, if_neg (by decide), List.append_nil] at hg
     simp [hl, k3, hg]
    ·by_cases k5 : (c.kids[i]).kind = 5
     ·rw [idle5 k5, if_neg (by decide), List.append_nil] at hg
      simp [hl, k5, hg]
     ·rw [idle0 k1 k3 k5, if_pos (by decide)] at hg
      simp [k1, k3, k5, hg]
 ·show i_simplified_L4b c go _ o = _
  unfold i_simplified_L4b dropR
  rw [List.take_length] at ho
  subst ho
  rw [if_neg (by omega)]
  by_cases h1 : (keeps c.kids.length c.kids).length = c.kids.length
  ·rw [if_pos (by omega), if_pos h1]; rfl
  ·rw [if_neg (by omega), if_neg h1]
   by_cases h2 : (keeps c.kids.length c.kids).length = 1
   ·rw [if_pos (by omega), gA h2, i9]
   ·rw [if_neg (by omega), dC h2]
def offD (d : PDat) : Bool := decide (d.kind = 3) && decide (d.number = 0)
def ifR (c : PCore) : PCore × Bool := match c.kids with
 | a :: b :: d :: _ => if isAt a = true then (if offD a.datum = true then (d, true) else (b, true)) else failR
 | _ => failR
theorem shape7 {c : PCore} (hv : okAll c = true) (h7 : c.kind = 7) : ∃ a b d, c.kids = [a, b, d] := by
 have hs := Q2 hv
 unfold shapeOK at hs
 rw [if_neg (by omega), if_neg (by omega), if_neg (by omega), if_neg (by omega), if_neg (by omega), if_neg (by omega), if_pos h7] at hs
 simp only [Bool.and_eq_true, decide_eq_true_eq] at hs
 have h : (c.kids.length : Int) = 3 := by first | exact hs.2.2.2 | exact hs.2.2.1
 match hk : c.kids, h with
 | [a, b, d], _ => exact ⟨a, b, d, rfl⟩
 | [], h => simp at h
 | [_], h => simp at h
 | [_, _], h => simp at h
 | _ :: _ :: _ :: _ :: _, h => simp at h; omega
theorem atomV_off (d : PDat) : (decide ((atomV d).kind = 2) && decide ((atomV d).number = 0)) = offD d := by
 unfold atomV offD
 by_cases k1 : d.kind = 1
 ·rw [if_pos k1, k1]; rfl
 ·by_cases k2 : d.kind = 2
  ·rw [if_neg k1, if_pos k2, k2]; rfl
  ·by_cases k3 : d.kind = 3
   ·rw [if_neg k1, if_neg k2, if_pos k3, k3]; rfl
   ·rw [if_neg k1, if_neg k2, if_neg k3, decide_eq_false k3]
    by_cases k4 : d.kind = 4
    ·rw [if_pos k4]; rfl
    ·rw [if_neg k4]; rfl
def nodeR (c : PCore) (bx : List Int) : PCore × Bool := if c.kind = 6 then (if (foldR c).2 = true then ((foldR c).1, true) else betaR c bx) else if c.kind = 7 then ifR c else if c.kind = 8 then dropR c else failR
theorem fail_2 {r : PCore × Bool} (h : r.2 = true) : r = (r.1, true) := by rw [← h]
theorem bX (c : PCore) (bx : List Int) (m : List (Int × Int)) (hm : ∀ k, mget m k = if bx.contains k = true then 1 else 0) (hc : c.nice) (hw : wK c ≤ 1048576) (hcc : c.cnt ≤ 3000) (hv : okAll c = true) : i_simplified c m = some (nodeR c bx) := by
 unfold i_simplified nodeR
 have hn := ((t6 c).1 hc).2.2.1
 by_cases h6 : c.kind = 6
 ·obtain ⟨f, ks, hk⟩ := cE hv h6
  have n0 : nth c.kids 0 = some f := by rw [hk]; rfl
  have hlen : c.kids.length = ks.length + 1 := by rw [hk]; rfl
  rw [if_pos h6, if_pos h6, i_folded_eq c hc hv, i9]
  by_cases hf : (foldR c).2 = true
  ·rw [if_pos hf, if_pos hf]
  ·rw [if_neg hf, if_neg hf, n0, i9, o3 (by omega)]
   by_cases h5 : f.kind = 5
   ·rw [if_pos h5]
    by_cases hl : f.params.length = ks.length
    ·rw [if_pos (by omega), i_beta_eq c bx m hm hc hw hcc hv f ks hk h5 hl]
    ·rw [if_neg (by omega)]
     unfold betaR
     simp only [hk]
     rw [if_neg (fun h => hl h.2)]; rfl
   ·rw [if_neg h5]
    unfold betaR
    simp only [hk]
    rw [if_neg (fun h => h5 h.1)]; rfl
 ·rw [if_neg h6, if_neg h6]
  by_cases h7 : c.kind = 7
  ·rw [if_pos h7, if_pos h7]
   obtain ⟨a, b, d, hk⟩ := shape7 hv h7
   have e0 : nth c.kids 0 = some a := by rw [hk]; rfl
   have e1 : nth c.kids 1 = some b := by rw [hk]; rfl
   have e2 : nth c.kids 2 = some d := by rw [hk]; rfl
   have ma : b ∈ c.kids := by rw [hk]; simp
   have mb : d ∈ c.kids := by rw [hk]; simp
   have ca := H0 ma
   have cb := H0 mb
   unfold i_simplified_J3 ifR
   rw [e0, e1, e2, i9, R2, i9, i9, i9, i9, A4 RF b (RF_cntK (by omega)) (s8 hc ma), A4 RF d (RF_cntK (by omega)) (s8 hc mb), i9, i9]
   simp only [hk]
   unfold offD
   cases isAt a
   ·rfl
   ·rw [if_pos rfl, if_pos rfl]
    by_cases k3 : a.datum.kind = 3
    ·rw [if_pos k3, decide_eq_true k3, Bool.true_and]
     cases decide (a.datum.number = 0) <;> rfl
    ·rw [if_neg k3, decide_eq_false k3, Bool.false_and]; rfl
  ·rw [if_neg h7, if_neg h7]
   by_cases h8 : c.kind = 8
   ·rw [if_pos h8, if_pos h8, i_drop_eq c hc hcc]
   ·rw [if_neg h8, if_neg h8]; rfl
theorem foldR_not {c : PCore} (h : ¬ c.kind = 6) : foldR c = failR := by unfold foldR; rw [if_neg h]
theorem s_l9Node_eq (c : PCore) (bx : List Int) (hc : c.nice) (hw : wK c ≤ 1048576) (hcc : c.cnt ≤ 3000) (hv : okAll c = true) (hb : bx.length ≤ 1000000000000) :
 ∃ r, s_l9Node c bx = some r ∧ r.2 = (nodeR c bx).2 ∧ (r.2 = true → r = nodeR c bx) ∧ (r.2 = false → nodeR c bx = failR) := by
 unfold s_l9Node nodeR
 rw [s_l9Fold_eq c hc hv, i9]
 by_cases h6 : c.kind = 6
 ·rw [if_pos h6]
  by_cases hf : (foldR c).2 = true
  ·rw [if_pos hf, if_pos hf]
   exact ⟨_, rfl, rfl, fun _ => rfl, fun h => by cases h⟩
  ·rw [if_neg hf, if_neg hf, s_l9Beta_eq c bx hc hw hcc hv hb h6, i9, if_neg (show ¬ c.kind = 7 by omega)]
   unfold s_l9Node_J1 s_l9Drop
   rw [if_neg (show ¬ false = true by decide), if_neg (show ¬ c.kind = 8 by omega)]
   by_cases hbt : (betaR c bx).2 = true
   ·rw [if_pos hbt]
    exact ⟨_, rfl, hbt.symm, fun _ => (fail_2 hbt).symm, fun h => by cases h⟩
   ·rw [if_neg hbt]
    have e : betaR c bx = failR := by
     unfold betaR at hbt ⊢
     split
     ·rfl
     ·rename_i f ks hk
      rw [hk] at hbt
      dsimp only at hbt
      split
      ·rename_i h1
       rw [if_pos h1] at hbt
       split
       ·rename_i h2
        rw [if_pos h2] at hbt
        split
        ·rfl
        ·rename_i hfk
         rw [hfk] at hbt
         exact absurd rfl hbt
       ·rfl
      ·rfl
    rw [e]
    exact ⟨_, rfl, rfl, fun h => (by cases h), fun _ => rfl⟩
 ·have hfl : ¬ failR.2 = true := by decide
  have hbeta : s_l9Beta c bx = some failR := by unfold s_l9Beta; rw [if_neg h6]; rfl
  rw [foldR_not h6, if_neg hfl, hbeta, i9, if_neg hfl, if_neg h6]
  by_cases h7 : c.kind = 7
  ·rw [if_pos h7, if_pos h7]
   obtain ⟨a, b, d, hk⟩ := shape7 hv h7
   have e0 : nth c.kids 0 = some a := by rw [hk]; rfl
   have e1 : nth c.kids 1 = some b := by rw [hk]; rfl
   have e2 : nth c.kids 2 = some d := by rw [hk]; rfl
   have ma : b ∈ c.kids := by rw [hk]; simp
   have mb : d ∈ c.kids := by rw [hk]; simp
   have ca := H0 ma
   have cb := H0 mb
   unfold s_l9Node_J1 s_l9Drop ifR
   rw [e0, i9, R7, i9]
   simp only [hk]
   by_cases ha : isAt a = true
   ·rw [if_pos ha, if_pos ha]
    rw [i9, RF_succ, Q8 _ _ (cB ha), i9, O1, i9, atomV_off, ← RF_succ]
    rw [← hk, e1, e2, i9, i9, D9 RF b (RF_cntK (by omega)) (s8 hc ma), D9 RF d (RF_cntK (by omega)) (s8 hc mb), i9, i9]
    cases offD a.datum
    ·exact ⟨_, rfl, rfl, fun _ => rfl, fun h => by cases h⟩
    ·exact ⟨_, rfl, rfl, fun _ => rfl, fun h => by cases h⟩
   ·rw [if_neg ha, if_neg ha, if_neg (show ¬ c.kind = 8 by omega), i9]
    exact ⟨_, rfl, rfl, fun h => (by cases h), fun _ => rfl⟩
  ·rw [if_neg h7, if_neg h7]
   unfold s_l9Node_J1
   rw [if_neg (show ¬ false = true by decide)]
   by_cases h8 : c.kind = 8
   ·rw [if_pos h8, s_l9Drop_eq c hc hcc hv h8, i9]
    unfold dropR
    have hkl := N4 c.kids.length c.kids
    by_cases hl : (keeps c.kids.length c.kids).length = c.kids.length
    ·rw [if_pos hl]
     have hd : decide ((keeps c.kids.length c.kids).length < c.kids.length) = false := decide_eq_false (by omega)
     refine ⟨_, rfl, hd, fun h => ?_, fun _ => rfl⟩
     dsimp only at h; rw [hd] at h; cases h
    ·rw [if_neg hl]
     have hd : decide ((keeps c.kids.length c.kids).length < c.kids.length) = true := decide_eq_true (by omega)
     refine ⟨_, rfl, hd, fun _ => by rw [hd], fun h => ?_⟩
     dsimp only at h; rw [hd] at h; cases h
   ·rw [if_neg h8]
    unfold s_l9Drop
    rw [if_neg h8, i9]
    exact ⟨_, rfl, rfl, fun h => (by cases h), fun _ => rfl⟩
def nodeOf (c : PCore) (bx : List Int) : PCore × Bool := if c.valid = true then nodeR c bx else failR
theorem dI {c : PCore} (h : c.valid = true) : c.cnt ≤ 3000 := by
 unfold PCore.valid tree at h
 simp only [Bool.and_eq_true, decide_eq_true_eq] at h
 omega
theorem X2 (c : PCore) (bx : List Int) (hc : c.nice) (hw : wK c ≤ 1048576) (hb : bx.length ≤ 1048576) : i_SimplifyNode c bx = some (nodeOf c bx) := by
 unfold i_SimplifyNode nodeOf
 rw [dP c hc hw, i9]
 by_cases h : c.valid = true
 ·rw [if_pos h, if_pos h, i_setOf_eq [bx] (by simp) (fun l hl => by simp at hl; subst hl; omega), i9, bX c bx _ (fun k => by rw [cK]; simp [mget_nil]) hc hw (dI h) (gF h), i9]
 ·rw [if_neg h, if_neg h]; rfl
theorem Y5 (c : PCore) (bx : List Int) (hc : c.nice) (hw : wK c ≤ 1048576) (hb : bx.length ≤ 1048576) : s_SimplifyNode c bx = some (nodeOf c bx) := by
 unfold s_SimplifyNode nodeOf
 rw [iU c hc hw, i9]
 by_cases h : c.valid = true
 ·rw [if_pos h, if_pos h]
  obtain ⟨r, e, h1, h2, h3⟩ := s_l9Node_eq c bx hc hw (dI h) (gF h) (by omega)
  rw [e, i9]
  by_cases hr : r.2 = true
  ·rw [if_pos hr, h2 hr, ← fail_2 (by rw [← h1]; exact hr)]
  ·rw [if_neg hr, h3 (by simpa using hr)]; rfl
 ·rw [if_neg h, if_neg h]; rfl
structure Okay (c : PCore) : Prop where
 nice : c.nice
 cnt : c.cnt ≤ 1048576
 w : wK c ≤ 100000000000
theorem iH {c : PCore} (h : bare c) : Okay c := ⟨h.1, by rw [h.2.1]; omega, by rw [h.2.2]; omega⟩
theorem okay_fine {c : PCore} {n : Nat} (h : Fine n c) (hn : n ≤ 8) : Okay c := ⟨h.nice, by have := h.cnt; omega, by have := h.w; have : n * 3146776576 ≤ 8 * 3146776576 := Nat.mul_le_mul_right _ hn; omega⟩
theorem fQ {c x : PCore} (hc : c.nice) (hw : wK c ≤ 1048576) (hx : x ∈ c.kids) : Okay x := by
 have h1 := E3 hx
 have h2 := G9 c
 have h3 := K4.1 x
 exact ⟨s8 hc hx, by omega, by omega⟩
theorem H9 : Okay failR.1 := iH (eV _ _ _ _)
theorem nodeR_okay (c : PCore) (bx : List Int) (hc : c.nice) (hw : wK c ≤ 1048576) (hcc : c.cnt ≤ 3000) (hv : okAll c = true) : Okay (nodeR c bx).1 := by
 unfold nodeR
 split
 ·rename_i h6
  split
  ·have hf : bare failR.1 := eV _ _ _ _
   refine iH ?_
   show bare (foldR c).1
   unfold foldR resOf datR
   repeat' split
   all_goals first | exact hf | exact eV _ _ _ _
  ·unfold betaR
   obtain ⟨f, ks, hk⟩ := cE hv h6
   simp only [hk]
   split
   ·rename_i h5
    split
    ·rename_i ho
     have hf : okAll f = true := G4 (ks := c.kids) (by rw [okAll_eq, Bool.and_eq_true] at hv; exact hv.2) (by rw [hk]; simp)
     obtain ⟨p8, b, hfk⟩ := shape5 hf h5.1
     rw [hfk]
     have hfin : f ∈ c.kids := by rw [hk]; simp
     have hbm : b ∈ f.kids := by rw [hfk]; simp
     have nb := s8 (s8 hc hfin) hbm
     have c1 := H0 hfin
     have c2 := H0 hbm
     have w1 := E3 hfin
     have w2 := E3 hbm
     have w3 := G9 c
     have w4 := G9 f
     have fb : Fine 0 b := ⟨nb, by omega, by omega⟩
     have := O6 (bx := bx) f.params ks b 0 fb (fun x hx => by
      have hm : x ∈ c.kids := by rw [hk]; simp [hx]
      have := E3 hm
      exact ⟨s8 hc hm, by omega, G4 (ks := c.kids) (by rw [okAll_eq, Bool.and_eq_true] at hv; exact hv.2) hm⟩) ho
     exact okay_fine this (by omega)
    ·exact H9
   ·exact H9
 ·split
  ·rename_i h7
   obtain ⟨a, b, d, hk⟩ := shape7 hv h7
   have ma : b ∈ c.kids := by rw [hk]; simp
   have mb : d ∈ c.kids := by rw [hk]; simp
   unfold ifR
   simp only [hk]
   repeat' split
   all_goals first | exact H9 | exact fQ hc hw ma | exact fQ hc hw mb
  ·split
   ·unfold dropR
    split
    ·exact H9
    ·dsimp only
     have hm : ∀ x ∈ keeps c.kids.length c.kids, x ∈ c.kids := fun x hx => iE hx
     by_cases h1 : (keeps c.kids.length c.kids).length = 1
     ·have h2 := gA h1
      have h3 : seqR (keeps c.kids.length c.kids) ∈ keeps c.kids.length c.kids := List.mem_of_getElem? (D4 h2).2.2
      exact fQ hc hw (hm _ h3)
     ·rw [dC h1]
      have hl := N4 c.kids.length c.kids
      have hn := (t6 c).1 hc
      have hww : wKs (keeps c.kids.length c.kids) ≤ wKs c.kids := keeps_w _ c.kids 0
      have h2 := G9 c
      have hcn : cnts (keeps c.kids.length c.kids) ≤ wKs (keeps c.kids.length c.kids) := K4.2 _
      have e1 : wK (PCore.mk 8 0 [] (PDat.mk 0 0 ([] : List UInt8) []) (keeps c.kids.length c.kids)) = wKs (keeps c.kids.length c.kids) := by rw [G9]; simp [PCore.params, PCore.datum, PCore.kids, wD, wDs]
      exact ⟨(t6 _).2 ⟨by simp [PCore.params], by simp [PCore.datum, wD, wDs], by show (keeps c.kids.length c.kids).length ≤ 1048576; omega, aT fun x hx => s8 hc (hm x hx)⟩, by show cnts (keeps c.kids.length c.kids) ≤ _; omega, by rw [e1]; omega⟩
   ·exact H9
theorem toIntS_eq' (xs : List Int) (h : xs.length ≤ 1048576) : w_toIntS xs = some xs := by
 unfold w_toIntS
 exact toS_eq' (L := w_toIntS_L1 xs) (0 : Int) xs 8 (by omega) h (fun go i out => rfl)
theorem gT (xs : List Int) (h : xs.length ≤ 1048576) : w_eqIntS xs xs = some true := by
 unfold w_eqIntS
 exact gU (L := w_eqIntS_L1 xs xs) xs h (fun go i => rfl)
set_option maxRecDepth 20000 in
theorem J3 (c : PCore) (bx : List Int) (hc : c.wf) (hbx : bx.length ≤ 9223372036854775807 ∧ ∀ x ∈ bx, IntKind.i64.min ≤ x ∧ x ≤ IntKind.i64.max) : w_FnExactSimplifyNode c bx = some true := by
 unfold w_FnExactSimplifyNode
 by_cases hbl : (bx.length : Int) > 1048576
 ·rw [if_pos hbl]
 rw [if_neg hbl, (w_szK_eq RF).1 c hc _ (by omega) (by omega) (by rw [RF_eq]; omega), i9]
 by_cases h : szw (wK c) 1048576 < 0
 ·rw [if_pos h]
 have f := szw_pos h
 rw [if_neg h]
 have wc : wK c ≤ 1048576 := by omega
 have nc : c.nice := nice_wK.1 c wc
 have cc := K4.1 c
 have hb : Okay (nodeOf c bx).1 := by
  unfold nodeOf
  split
  ·rename_i hv; exact nodeR_okay c bx nc wc (dI hv) (gF hv)
  ·exact H9
 have es := Y5 c bx nc wc (by omega)
 have ei := X2 c bx nc wc (by omega)
 generalize nodeOf c bx = r at hb es ei
 obtain ⟨nr, cr, wr⟩ := hb
 have m1 := cH c 1 nc (by omega) (by omega) (by omega)
 have l1 := endK_le 1 c
 have m2 := R4 bx (endK 1 c) (by omega) (by omega) (by omega)
 have m3 := cH r.1 1 nr (by omega) (by omega) (by omega)
 have l3 := endK_le 1 r.1
 have h1 := heldCore_eq r.1.kind r.1.number r.1.datum.kind r.1.datum.number r.1.datum.text r.1 1 nr (by omega) (by omega) (by omega)
 have lm := mAll_le mI_le bx (endK 1 c)
 rw [toCore_eq nc (by omega), i9, toIntS_eq' bx (by omega), i9, es, i9, i9, i9, ei, i9, bM nr (by omega), i9, if_pos rfl, if_pos rfl, i9, bM nc (by omega), i9, if_pos rfl, i9, gT bx (by omega), i9, if_pos rfl, m1, i9]
 refine (o3 (mP_len _ _)).trans ((o3 (mQ_len _ _)).trans ((o3 (mR_len _ _)).trans ?_))
 refine (congrArg (bnd · _) m2).trans ?_
 rw [i9]
 refine (o3 (z5 _ _ _)).trans ?_
 refine (if_neg (by show ¬ (mAll mI (endK 1 c) bx).1 < 0; omega)).trans ?_
 rw [i9, if_pos rfl, if_pos rfl, m3, i9]
 refine (o3 (mP_len _ _)).trans ((o3 (mQ_len _ _)).trans ((o3 (mR_len _ _)).trans ?_))
 rw [h1]
 simp only [i9]
 rw [if_neg (by omega), if_pos trivial, ei, i9, bM nr (by omega), i9, if_pos rfl, if_pos rfl, if_neg (by omega), if_pos trivial]
end Go.Abs
