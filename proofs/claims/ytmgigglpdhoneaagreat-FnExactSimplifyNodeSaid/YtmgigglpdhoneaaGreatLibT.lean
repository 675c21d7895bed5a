
import Derived.Test.YtmgigglpdhoneaaGreatLibS
import Derived.Test.YtmgigglpdhoneaaGreatLibE
import Derived.Test.YtmgigglpdhoneaaGreatLibD
import Derived.Test.YtmgigglpdhoneaaGreatLibP
set_option linter.unusedVariables false
set_option linter.unusedSimpArgs false
namespace Go.Abs
namespace PCore
mutual
def cnt : PCore → Nat
 | .mk _ _ _ _ ks => cnts ks
def cnts : List PCore → Nat
 | [] => 0
 | c :: r => 1 + cnt c + cnts r
end
theorem cnts_mem : ∀ {ds : List PCore} {x : PCore}, x ∈ ds → x.cnt + 1 ≤ cnts ds
 | d :: r, x, h => by
  unfold cnts
  rcases List.mem_cons.1 h with rfl | h
  ·omega
  ·have := cnts_mem h; omega
theorem cnts_len : ∀ (ds : List PCore), ds.length ≤ cnts ds
 | [] => by simp
 | d :: r => by have := cnts_len r; unfold cnts; simp; omega
theorem cnt_eq (d : PCore) : d.cnt = cnts d.kids := by cases d; rfl
theorem H0 {d x : PCore} (h : x ∈ d.kids) : x.cnt < d.cnt := by have := cnts_mem h; rw [cnt_eq d]; omega
theorem ind {A : PCore → Prop} {B : List PCore → Prop} (hB : ∀ ds, (∀ x ∈ ds, A x) → B ds) (hA : ∀ d, B d.kids → A d) : (∀ d, A d) ∧ ∀ ds, B ds := by
 have key : ∀ N, (∀ d : PCore, d.cnt < N → A d) ∧ ∀ ds : List PCore, cnts ds ≤ N → B ds := by
  intro N
  induction N with
  | zero => exact ⟨fun d h => by omega, fun ds h => hB ds fun x hx => by have := cnts_mem hx; omega⟩
  | succ N ih =>
   have hA' : ∀ d : PCore, d.cnt < N + 1 → A d := fun d h => hA d (ih.2 _ (by rw [← cnt_eq]; omega))
   exact ⟨hA', fun ds h => hB ds fun x hx => hA' x (by have := cnts_mem hx; omega)⟩
 exact ⟨fun d => (key (d.cnt + 1)).1 d (by omega), fun ds => (key (cnts ds)).2 ds (Nat.le_refl _)⟩
mutual
def wK : PCore → Nat
 | .mk _ _ p d ks => p.length + wD d + wKs ks
def wKs : List PCore → Nat
 | [] => 0
 | c :: r => 1 + wK c + wKs r
end
theorem G9 (c : PCore) : wK c = c.params.length + wD c.datum + wKs c.kids := by cases c; rfl
theorem wKs_eq : ∀ ds : List PCore, wKs ds = wts wK ds
 | [] => rfl
 | d :: r => by have := wKs_eq r; unfold wts at *; simp [wKs]; omega
theorem E3 : ∀ {ds : List PCore} {x : PCore}, x ∈ ds → wK x < wKs ds
 | d :: r, x, h => by
  unfold wKs
  rcases List.mem_cons.1 h with rfl | h
  ·omega
  ·have := E3 h; omega
theorem K4 : (∀ d : PCore, d.cnt ≤ wK d) ∧ ∀ ds : List PCore, cnts ds ≤ wKs ds := by
 refine ind (fun ds h => ?_) (fun d h => ?_)
 ·induction ds with
  | nil => simp [cnts]
  | cons x r ih => have := h x (by simp); have := ih (fun y hy => h y (by simp [hy])); unfold cnts wKs; omega
 ·rw [cnt_eq, G9]; omega
mutual
def nice : PCore → Prop
 | .mk _ _ p d ks => p.length ≤ 1048576 ∧ wD d ≤ 1048576 ∧ ks.length ≤ 1048576 ∧ nices ks
def nices : List PCore → Prop
 | [] => True
 | c :: r => nice c ∧ nices r
end
theorem t6 (c : PCore) : c.nice ↔ c.params.length ≤ 1048576 ∧ wD c.datum ≤ 1048576 ∧ c.kids.length ≤ 1048576 ∧ nices c.kids := by cases c; exact Iff.rfl
theorem I8 : ∀ {ds : List PCore} {x : PCore}, nices ds → x ∈ ds → x.nice
 | d :: r, x, h, hx => by
  unfold nices at h
  rcases List.mem_cons.1 hx with rfl | hx
  ·exact h.1
  ·exact I8 h.2 hx
theorem aT : ∀ {ds : List PCore}, (∀ x ∈ ds, x.nice) → nices ds
 | [], _ => trivial
 | d :: r, h => ⟨h d (by simp), aT fun x hx => h x (by simp [hx])⟩
theorem nice_wK : (∀ d : PCore, wK d ≤ 1048576 → d.nice) ∧ ∀ ds : List PCore, wKs ds ≤ 1048576 → nices ds := by
 refine ind (fun ds h hw => aT fun x hx => h x hx (by have := E3 hx; omega)) (fun d h hw => ?_)
 rw [G9] at hw
 have h1 := cnts_len d.kids
 have h2 := K4.2 d.kids
 exact (t6 d).2 ⟨by omega, by omega, by omega, h (by omega)⟩
theorem s8 {c x : PCore} (h : c.nice) (hx : x ∈ c.kids) : x.nice := I8 ((t6 c).1 h).2.2.2 hx
theorem z2 {c : PCore} (h : c.nice) : c.datum.small := small_wD ((t6 c).1 h).2.1
mutual
def wf : PCore → Prop
 | .mk k n p d ks => (IntKind.i64.min ≤ k ∧ k ≤ IntKind.i64.max) ∧ (IntKind.i64.min ≤ n ∧ n ≤ IntKind.i64.max) ∧ (p.length ≤ 9223372036854775807 ∧ ∀ x ∈ p, IntKind.i64.min ≤ x ∧ x ≤ IntKind.i64.max) ∧ d.wf ∧ ks.length ≤ 9223372036854775807 ∧ wfs ks
def wfs : List PCore → Prop
 | [] => True
 | d :: r => wf d ∧ wfs r
end
theorem wfs_mem : ∀ {ds : List PCore} {x : PCore}, wfs ds → x ∈ ds → x.wf
 | d :: r, x, h, hx => by
  unfold wfs at h
  rcases List.mem_cons.1 hx with rfl | hx
  ·exact h.1
  ·exact wfs_mem h.2 hx
theorem jD : ∀ {ds : List PCore}, (∀ x ∈ ds, x.wf) → wfs ds
 | [], _ => trivial
 | d :: r, h => ⟨h d (by simp), jD fun x hx => h x (by simp [hx])⟩
theorem wf_eq (c : PCore) : c.wf ↔ (IntKind.i64.min ≤ c.kind ∧ c.kind ≤ IntKind.i64.max) ∧ (IntKind.i64.min ≤ c.number ∧ c.number ≤ IntKind.i64.max) ∧ (c.params.length ≤ 9223372036854775807 ∧ ∀ x ∈ c.params, IntKind.i64.min ≤ x ∧ x ≤ IntKind.i64.max) ∧ c.datum.wf ∧ c.kids.length ≤ 9223372036854775807 ∧ wfs c.kids := by cases c; exact Iff.rfl
theorem wf_of {x : Int × Int × List Int × PDat × List PCore} (h : (IntKind.i64.min ≤ x.1 ∧ x.1 ≤ IntKind.i64.max) ∧ (IntKind.i64.min ≤ x.2.1 ∧ x.2.1 ≤ IntKind.i64.max) ∧ (x.2.2.1.length ≤ 9223372036854775807 ∧ ∀ y ∈ x.2.2.1, IntKind.i64.min ≤ y ∧ y ≤ IntKind.i64.max) ∧ x.2.2.2.1.wf ∧ x.2.2.2.2.length ≤ 9223372036854775807 ∧ ∀ y ∈ x.2.2.2.2, y.wf) : (PCore.mk x.1 x.2.1 x.2.2.1 x.2.2.2.1 x.2.2.2.2).wf :=
 ⟨h.1, h.2.1, h.2.2.1, h.2.2.2.1, h.2.2.2.2.1, jD h.2.2.2.2.2⟩
def named (c : PCore) : Bool := decide (c.kind = 2) || decide (c.kind = 4)
def shapeOK (c : PCore) : Bool :=
 (decide (c.kind = 1) || PDat.eqb c.datum zeroDat) && ((decide (c.number = 0) || (named c || decide (c.kind = 3))) &&
 (if c.kind = 1 then decide ((c.params.length : Int) = 0) && (decide ((c.kids.length : Int) = 0) && c.datum.valid)
 else if c.kind = 2 then decide ((c.params.length : Int) = 0) && decide ((c.kids.length : Int) = 0)
 else if c.kind = 3 then decide ((c.params.length : Int) = 0) && (decide ((c.kids.length : Int) = 0) && inside c.number 0 13)
 else if c.kind = 4 then decide ((c.params.length : Int) = 0) && decide ((c.kids.length : Int) = 1)
 else if c.kind = 5 then decide ((c.params.length : Int) ≤ 8) && decide ((c.kids.length : Int) = 1)
 else if c.kind = 6 then decide ((c.params.length : Int) = 0) && inside (c.kids.length : Int) 1 9
 else if c.kind = 7 then decide ((c.params.length : Int) = 0) && decide ((c.kids.length : Int) = 3)
 else if c.kind = 8 then decide ((c.params.length : Int) = 0) && inside (c.kids.length : Int) 2 60
 else if c.kind = 9 then inside (c.params.length : Int) 1 60 && inside (c.kids.length : Int) 1 60
 else if c.kind = 10 then decide ((c.params.length : Int) = 0) && decide ((c.kids.length : Int) = 1)
 else if c.kind = 11 then decide ((c.params.length : Int) = 1) && decide ((c.kids.length : Int) = 1)
 else false))
def seqOK (c : PCore) : Bool := !decide (c.kind = 8) || c.kids.all fun x => !decide (x.kind = 8)
mutual
def okAll : PCore → Bool
 | .mk k n p d ks => (shapeOK (.mk k n p d ks) && seqOK (.mk k n p d ks)) && okAlls ks
def okAlls : List PCore → Bool
 | [] => true
 | d :: r => okAll d && okAlls r
end
mutual
def depth : PCore → Int
 | .mk _ _ _ _ ks => depths ks + 1
def depths : List PCore → Int
 | [] => 0
 | d :: r => max (depth d) (depths r)
end
mutual
def meas : PCore → Int → Int → Bool × Int
 | .mk k n p d ks, deep, nodes => if 150 < deep ∨ 3000 < nodes + 1 ∨ (shapeOK (.mk k n p d ks) && seqOK (.mk k n p d ks)) = false then (false, nodes + 1) else measL ks (deep + 1) (nodes + 1)
def measL : List PCore → Int → Int → Bool × Int
 | [], _, nodes => (true, nodes)
 | d :: r, deep, nodes => if (meas d deep nodes).1 = true then measL r deep (meas d deep nodes).2 else (false, (meas d deep nodes).2)
end
mutual
def few : PCore → Int → Int
 | .mk _ _ _ _ ks, left => fews ks (left - 1)
def fews : List PCore → Int → Int
 | [], left => left
 | d :: r, left => if 0 ≤ left then fews r (few d left) else left
end
def tree (d : PCore) : Bool := decide ((d.cnt : Int) + 1 ≤ 3000) && (decide (d.depth ≤ 150) && d.okAll)
theorem u5 : ∀ ds : List PCore, 0 ≤ depths ds
 | [] => by simp [depths]
 | d :: r => by have := u5 r; unfold depths; omega
theorem N7 : (∀ (d : PCore) (deep nodes : Int), ((meas d deep nodes).1 = true ↔ deep + d.depth ≤ 151 ∧ nodes + 1 + d.cnt ≤ 3000 ∧ d.okAll = true) ∧ ((meas d deep nodes).1 = true → (meas d deep nodes).2 = nodes + 1 + d.cnt)) ∧
 (∀ (ds : List PCore) (deep nodes : Int), deep ≤ 151 → nodes ≤ 3000 → ((measL ds deep nodes).1 = true ↔ deep + depths ds ≤ 151 ∧ nodes + cnts ds ≤ 3000 ∧ okAlls ds = true) ∧ ((measL ds deep nodes).1 = true → (measL ds deep nodes).2 = nodes + cnts ds)) := by
 refine ind (fun ds ih => ?_) (fun d ih => ?_)
 ·induction ds with
  | nil => intro deep nodes h1 h2; simp [measL, depths, cnts, okAlls]; omega
  | cons x r ihr =>
   intro deep nodes h1 h2
   have hx := ih x (by simp) deep nodes
   have hr := ihr (fun y hy => ih y (by simp [hy])) deep
   have hd := u5 r
   unfold measL depths cnts okAlls
   by_cases hb : (meas x deep nodes).1 = true
   ·rw [if_pos hb]
    have h3 := hx.1.1 hb
    have h4 := hx.2 hb
    have h5 := hr (meas x deep nodes).2 h1 (by omega)
    rw [h5.1, h3.2.2, h4, Bool.true_and]
    refine ⟨⟨fun h => ⟨by omega, by omega, h.2.2⟩, fun h => ⟨by omega, by omega, h.2.2⟩⟩, fun h => ?_⟩
    rw [← h4, h5.2 (h5.1.2 (by rw [h4]; exact h)), h4]
    omega
   ·rw [if_neg hb]
    refine ⟨⟨fun h => by simp at h, fun h => ?_⟩, fun h => by simp at h⟩
    refine absurd (hx.1.2 ⟨by omega, by omega, ?_⟩) hb
    have := h.2.2
    simp only [Bool.and_eq_true] at this
    exact this.1
 ·intro deep nodes
  obtain ⟨k, n, p, d, is⟩ := d
  have ih' : ∀ (deep nodes : Int), deep ≤ 151 → nodes ≤ 3000 → ((measL is deep nodes).1 = true ↔ deep + depths is ≤ 151 ∧ nodes + cnts is ≤ 3000 ∧ okAlls is = true) ∧ ((measL is deep nodes).1 = true → (measL is deep nodes).2 = nodes + cnts is) := ih
  have hd := u5 is
  unfold meas depth cnt okAll
  generalize (shapeOK (.mk k n p d is) && seqOK (.mk k n p d is)) = b
  by_cases hc : 150 < deep ∨ 3000 < nodes + 1 ∨ b = false
  ·rw [if_pos hc]
   refine ⟨⟨fun h => by simp at h, fun h => ?_⟩, fun h => by simp at h⟩
   have := h.2.2
   simp only [Bool.and_eq_true] at this
   rcases hc with hc | hc | hc
   ·omega
   ·omega
   ·rw [this.1] at hc; cases hc
  ·rw [if_neg hc]
   have h0 : b = true := by cases b <;> simp_all
   have h5 := ih' (deep + 1) (nodes + 1) (by omega) (by omega)
   rw [h5.1, h0, Bool.true_and]
   refine ⟨⟨fun h => ⟨by omega, by omega, h.2.2⟩, fun h => ⟨by omega, by omega, h.2.2⟩⟩, fun h => ?_⟩
   rw [h5.2 (h5.1.2 h)]
theorem T9 : (∀ (d : PCore) (left : Int), 0 ≤ left → (-1 ≤ few d left ∧ few d left ≤ left) ∧ (0 ≤ few d left ↔ (d.cnt : Int) + 1 ≤ left) ∧ (0 ≤ few d left → few d left = left - (d.cnt + 1))) ∧
 (∀ (ds : List PCore) (left : Int), -1 ≤ left → (-1 ≤ fews ds left ∧ fews ds left ≤ left) ∧ (0 ≤ fews ds left ↔ (cnts ds : Int) ≤ left) ∧ (0 ≤ fews ds left → fews ds left = left - cnts ds)) := by
 refine ind (fun ds ih => ?_) (fun d ih => ?_)
 ·induction ds with
  | nil => intro left h; simp [fews, cnts]; omega
  | cons x r ihr =>
   intro left h
   unfold fews cnts
   by_cases h0 : 0 ≤ left
   ·rw [if_pos h0]
    have hx := ih x (by simp) left h0
    have hr := ihr (fun y hy => ih y (by simp [hy])) (few x left) (by omega)
    refine ⟨by omega, ⟨fun h => ?_, fun h => ?_⟩, fun h => ?_⟩
    ·have h1 := hr.2.1.1 h
     have h2 := hx.2.2 (by omega)
     omega
    ·have h2 := hx.2.2 (hx.2.1.2 (by omega))
     exact hr.2.1.2 (by omega)
    ·have h1 := hr.2.1.1 h
     have h2 := hx.2.2 (by omega)
     have h3 := hr.2.2 h
     omega
   ·rw [if_neg h0]
    refine ⟨by omega, ⟨fun h => by omega, fun h => by omega⟩, fun h => by omega⟩
 ·intro left h0
  obtain ⟨k, n, p, d, is⟩ := d
  have h := ih (left - 1) (by omega)
  have h' : (-1 ≤ fews is (left - 1) ∧ fews is (left - 1) ≤ left - 1) ∧ (0 ≤ fews is (left - 1) ↔ (cnts is : Int) ≤ left - 1) ∧ (0 ≤ fews is (left - 1) → fews is (left - 1) = left - 1 - cnts is) := h
  unfold few cnt
  refine ⟨by omega, by rw [h'.2.1]; omega, fun h => by rw [h'.2.2 h]; omega⟩
theorem meas_tree (d : PCore) : (meas d 1 0).1 = d.tree := by
 have h := (N7.1 d 1 0).1
 generalize meas d 1 0 = q at h
 have e : d.tree = true ↔ ((d.cnt : Int) + 1 ≤ 3000 ∧ d.depth ≤ 150 ∧ d.okAll = true) := by
  unfold tree
  rw [Bool.and_eq_true, Bool.and_eq_true, decide_eq_true_iff, decide_eq_true_iff]
 rw [Bool.eq_iff_iff, h, e]
 refine ⟨fun h => ⟨by omega, by omega, h.2.2⟩, fun h => ⟨by omega, by omega, h.2.2⟩⟩
theorem few_tree (d : PCore) : (decide (0 ≤ few d 3000) && (decide (d.depth ≤ 150) && d.okAll)) = d.tree := by
 have h := (T9.1 d 3000 (by omega)).2.1
 have e : decide (0 ≤ few d 3000) = decide ((d.cnt : Int) + 1 ≤ 3000) := decide_eq_decide.2 h
 unfold tree
 rw [e]
theorem meas_eq (d : PCore) (deep nodes : Int) : meas d deep nodes = if 150 < deep ∨ 3000 < nodes + 1 ∨ (shapeOK d && seqOK d) = false then (false, nodes + 1) else measL d.kids (deep + 1) (nodes + 1) := by cases d; rfl
theorem few_eq (d : PCore) (left : Int) : few d left = fews d.kids (left - 1) := by cases d; rfl
theorem T6 (d : PCore) : d.depth = depths d.kids + 1 := by cases d; rfl
theorem okAll_eq (d : PCore) : d.okAll = ((shapeOK d && seqOK d) && okAlls d.kids) := by cases d; rfl
theorem T5 : (∀ d : PCore, d.depth ≤ d.cnt + 1 ∧ 1 ≤ d.depth) ∧ ∀ ds : List PCore, depths ds ≤ cnts ds := by
 refine ind (fun ds ih => ?_) (fun d ih => ?_)
 ·induction ds with
  | nil => simp [depths, cnts]
  | cons x r ihr =>
   have h1 := ih x (by simp)
   have h2 := ihr fun y hy => ih y (by simp [hy])
   unfold depths cnts
   omega
 ·have := u5 d.kids
  rw [T6, cnt_eq]
  omega
mutual
def bnds : PCore → List Int
 | .mk _ _ p _ ks => p ++ bndsL ks
def bndsL : List PCore → List Int
 | [] => []
 | c :: r => bnds c ++ bndsL r
end
theorem bnds_eq (c : PCore) : bnds c = c.params ++ bndsL c.kids := by cases c; rfl
theorem eW : (∀ c : PCore, (bnds c).length ≤ wK c) ∧ ∀ ds : List PCore, (bndsL ds).length ≤ wKs ds := by
 refine ind (fun ds h => ?_) (fun d h => ?_)
 ·induction ds with
  | nil => simp [bndsL]
  | cons x r ih => have := h x (by simp); have := ih (fun y hy => h y (by simp [hy])); unfold bndsL wKs; simp; omega
 ·rw [bnds_eq, G9]; simp; omega
def freeOne (c : PCore) (b o : List Int) : List Int := if (named c && (!b.contains c.number && !o.contains c.number)) = true then o ++ [c.number] else o
mutual
def free : PCore → List Int → List Int → List Int
 | .mk k n p d ks, b, o => frees ks (b ++ p) (freeOne (.mk k n p d ks) b o)
def frees : List PCore → List Int → List Int → List Int
 | [], _, o => o
 | c :: r, b, o => frees r b (free c b o)
end
theorem fC (c : PCore) (b o : List Int) : free c b o = frees c.kids (b ++ c.params) (freeOne c b o) := by cases c; rfl
theorem freeOne_len (c : PCore) (b o : List Int) : (freeOne c b o).length ≤ o.length + 1 := by unfold freeOne; split <;> simp
theorem fD : (∀ (c : PCore) (b o : List Int), (free c b o).length ≤ o.length + 1 + cnt c) ∧ ∀ (ds : List PCore) (b o : List Int), (frees ds b o).length ≤ o.length + cnts ds := by
 refine ind (fun ds h => ?_) (fun d h => ?_)
 ·induction ds with
  | nil => intro b o; simp [frees, cnts]
  | cons x r ih =>
   intro b o
   have h1 := h x (by simp) b o
   have h2 := ih (fun y hy => h y (by simp [hy])) b (free x b o)
   unfold frees cnts; omega
 ·intro b o
  have h1 := freeOne_len d b o
  have h2 := h (b ++ d.params) (freeOne d b o)
  rw [fC, cnt_eq]; omega
def uniq : List Int → List Int → Bool
 | _, [] => true
 | s, x :: r => inside x 0 99999 && (!s.contains x && uniq (s ++ [x]) r)
def valid (c : PCore) : Bool := c.tree && uniq [] (free c [] [] ++ bnds c)
mutual
def subst (x : Int) (s : PCore) : PCore → PCore
 | .mk k n p d ks => if k = 2 ∧ n = x then s else .mk k n p d (substs x s ks)
def substs (x : Int) (s : PCore) : List PCore → List PCore
 | [] => []
 | c :: r => subst x s c :: substs x s r
end
theorem I4 (x : Int) (s : PCore) : ∀ ds : List PCore, substs x s ds = ds.map (subst x s)
 | [] => rfl
 | d :: r => by simp [substs, I4 x s r]
theorem W2 (x : Int) (s c : PCore) : subst x s c = if c.kind = 2 ∧ c.number = x then s else .mk c.kind c.number c.params c.datum (c.kids.map (subst x s)) := by cases c; rw [← I4]; rfl
theorem subst_nice (x : Int) (s : PCore) (hs : s.nice) : (∀ c : PCore, c.nice → (subst x s c).nice) ∧ ∀ ds : List PCore, nices ds → nices (substs x s ds) := by
 refine ind (fun ds h hd => ?_) (fun d h hd => ?_)
 ·rw [I4]
  exact aT fun y hy => by
   obtain ⟨z, hz, rfl⟩ := List.mem_map.1 hy
   exact h z hz (I8 hd hz)
 ·rw [W2]
  have hd' := (t6 d).1 hd
  split
  ·exact hs
  ·exact (t6 _).2 ⟨hd'.1, hd'.2.1, by show (d.kids.map _).length ≤ _; rw [List.length_map]; exact hd'.2.2.1, by have := h hd'.2.2.2; rw [I4] at this; exact this⟩
theorem subst_cnt (x : Int) (s : PCore) (hs : s.cnt = 0) : (∀ c : PCore, (subst x s c).cnt ≤ c.cnt) ∧ ∀ ds : List PCore, cnts (substs x s ds) ≤ cnts ds := by
 refine ind (fun ds h => ?_) (fun d h => ?_)
 ·induction ds with
  | nil => exact Nat.le_refl _
  | cons y r ih => have := h y (by simp); have := ih (fun y hy => h y (by simp [hy])); unfold substs cnts; omega
 ·rw [W2]
  split
  ·omega
  ·rw [I4] at h; rw [cnt_eq d]; exact h
theorem subst_wK (x : Int) (s : PCore) : (∀ c : PCore, wK (subst x s c) ≤ wK c + (1 + c.cnt) * wK s) ∧ ∀ ds : List PCore, wKs (substs x s ds) ≤ wKs ds + cnts ds * wK s := by
 refine ind (fun ds h => ?_) (fun d h => ?_)
 ·induction ds with
  | nil => simp [substs, wKs, cnts]
  | cons y r ih =>
   have h1 := h y (by simp)
   have h2 := ih (fun y hy => h y (by simp [hy]))
   unfold substs wKs cnts
   rw [Nat.add_mul (1 + y.cnt)]; omega
 ·rw [W2]
  split
  ·rw [Nat.add_mul, Nat.one_mul]; omega
  ·rw [I4] at h
   rw [G9 d, cnt_eq d, Nat.add_mul, Nat.one_mul]
   show d.params.length + wD d.datum + wKs (d.kids.map (subst x s)) ≤ _
   omega
end PCore
end Go.Abs

namespace Go.Abs
open PCore
theorem RF_cntK {c : PCore} (h : c.cnt ≤ 1000000000000) : c.cnt < RF := by rw [RF_eq]; omega
theorem B1 {c : PCore} {i : Nat} (hi : i < c.kids.length) : (c.kids[i]).cnt < c.cnt := H0 (List.getElem_mem hi)
theorem P7 {α β R : Type} {L : (Int × List β → Option R) → Int × List β → Option R} (f : α → β) (F : List β → Option R) (xs : List α) (hn : xs.length ≤ 1048576)
 (step : ∀ go (i : Nat) o (hi : i < xs.length), o.length = i → L go ((i : Int), o) = go ((i : Int) + 1, o ++ [f xs[i]])) (fin : ∀ go o, L go ((xs.length : Int), o) = F o) :
 itr L LF (0, []) = F (xs.map f) := by
 rw [y9 (L := L) xs.length (fun i o => o.length = i) (fun i o => F (o ++ (xs.drop i).map f)) (by omega) (fun go i o hi ho hgo => ?_) (fun go o ho => ?_) (by simp)]
 ·simp
 ·rw [step go i o hi ho, hgo _ (by simp [ho]), List.drop_eq_getElem_cons hi, List.map_cons, List.append_assoc]; rfl
 ·rw [fin]; simp
theorem M8 (l : List Int) (h : l.length ≤ 4000000) : s_l2Ints l = some l := by unfold s_l2Ints; rw [o3 (by simp; omega)]; rfl
theorem kids_len (c : PCore) : c.kids.length ≤ wK c := by
 have h1 := cnts_len c.kids
 have h2 := K4.2 c.kids
 rw [G9]; omega
theorem wKs_drop {ds : List PCore} {i : Nat} (h : i < ds.length) : wKs (ds.drop i) = 1 + wK ds[i] + wKs (ds.drop (i + 1)) := by rw [List.drop_eq_getElem_cons h, wKs]
theorem dX {E : PCore → List Int → Option (List Int)} {L : (Int × List Int → Option (List Int)) → Int × List Int → Option (List Int)} (c : PCore) (out : List Int) (hn : c.kids.length ≤ 1048576) (ho : out.length + wKs c.kids ≤ 4000000)
 (hE : ∀ (i : Nat) (h : i < c.kids.length) (o : List Int), o.length + wK c.kids[i] ≤ 4000000 → E c.kids[i] o = some (o ++ bnds c.kids[i]))
 (hL : ∀ go (i : Int) o, L go (i, o) = if i < (c.kids.length : Int) then bnd (nth c.kids i) fun x => bnd (E x o) fun y => chk (I64 (i + 1)) (go (i + 1, y)) else some o) :
 itr L LF (0, out) = some (out ++ bndsL c.kids) := by
 rw [y9 (L := L) c.kids.length (fun i o => o.length + wKs (c.kids.drop i) ≤ 4000000) (fun i o => some (o ++ bndsL (c.kids.drop i))) (by omega) (fun go i o hi ho hgo => ?_) (fun go o ho => ?_) (by simpa using ho)]
 ·rw [List.drop_zero]
 ·have hw := wKs_drop hi
  have hb := eW.1 c.kids[i]
  rw [hL, if_pos (by omega), r8 hi, i9, hE i hi o (by omega), i9, o3 (by omega), hgo _ (by rw [List.length_append]; omega), List.drop_eq_getElem_cons hi, bndsL, List.append_assoc]
 ·rw [hL, if_neg (by omega), List.drop_length]; simp [bndsL]
theorem Z6 : ∀ (n : Nat) (c : PCore) (out : List Int), c.cnt < n → c.nice → out.length + wK c ≤ 4000000 → i_boundIn n c out = some (out ++ bnds c)
 | 0, d, _, h, _, _ => by omega
 | n + 1, c, out, h, hc, ho => by
  show i_boundIn_b (i_boundIn n) c out = _
  unfold i_boundIn_b
  have hc' := (t6 c).1 hc
  have hw := G9 c
  rw [o3 (by omega), dX (L := i_boundIn_L1 (i_boundIn n) c) (E := i_boundIn n) c (out ++ c.params) hc'.2.2.1 (by rw [List.length_append]; omega) (fun i hi o ho => Z6 n _ o (by have := B1 hi; omega) (s8 hc (List.getElem_mem hi)) ho) (fun go i o => rfl), bnds_eq, List.append_assoc]
theorem aE : ∀ (n : Nat) (c : PCore) (out : List Int), c.cnt < n → c.nice → out.length + wK c ≤ 4000000 → s_l5Bound n c out = some (out ++ bnds c)
 | 0, d, _, h, _, _ => by omega
 | n + 1, c, out, h, hc, ho => by
  show s_l5Bound_b (s_l5Bound n) c out = _
  unfold s_l5Bound_b
  have hc' := (t6 c).1 hc
  have hw := G9 c
  rw [o3 (by omega), dX (L := s_l5Bound_L1 (s_l5Bound n) c) (E := s_l5Bound n) c (out ++ c.params) hc'.2.2.1 (by rw [List.length_append]; omega) (fun i hi o ho => aE n _ o (by have := B1 hi; omega) (s8 hc (List.getElem_mem hi)) ho) (fun go i o => rfl), bnds_eq, List.append_assoc]
theorem R1 (c : PCore) (h : c.nice) (hw : wK c ≤ 1048576) : i_BoundVariables c = some (bnds c) := by
 unfold i_BoundVariables
 rw [Z6 RF c [] (RF_cntK (by have := K4.1 c; omega)) h (by simp; omega), i9, List.nil_append]
theorem scope_loop {L : (Int → Option Bool) → Int → Option Bool} (l : List Int) (x : Int) (h : l.length ≤ 1000000000000) (hL : ∀ go (i : Int), L go i = if i < (l.length : Int) then bnd (nth l i) fun y => if y = x then some true else chk (I64 (i + 1)) (go (i + 1)) else some false) : itr L LF 0 = some (l.contains x) := by
 rw [I7 (L := L) l.length (fun i => some ((l.drop i).contains x)) (by omega) (fun go i hi hgo => ?_) (fun go => ?_)]
 ·rw [List.drop_zero]
 ·rw [hL, if_pos (by omega), r8 hi, i9, o3 (by omega), hgo, List.drop_eq_getElem_cons hi, List.contains_cons]
  by_cases hx : l[i] = x
  ·simp [hx]
  ·have : ¬ x = l[i] := fun h => hx h.symm
   simp [hx, this]
 ·rw [hL, if_neg (by omega), List.drop_length]; rfl
theorem A5 (l : List Int) (x : Int) (h : l.length ≤ 1000000000000) : s_HasScope l x = some (l.contains x) := scope_loop l x h fun go i => rfl
theorem O0 (c : PCore) : s_l5Names c = some (named c) := by
 unfold s_l5Names named
 by_cases h : c.kind = 2 <;> simp [h]
theorem eD {E : PCore → List Int → List Int → Option (List Int)} {L : (Int × List Int → Option (List Int)) → Int × List Int → Option (List Int)} (c : PCore) (b out : List Int) (hn : c.kids.length ≤ 1048576) (ho : out.length + cnts c.kids ≤ 4000000)
 (hE : ∀ (i : Nat) (h : i < c.kids.length) (o : List Int), o.length + 1 + cnt c.kids[i] ≤ 4000000 → E c.kids[i] b o = some (free c.kids[i] b o))
 (hL : ∀ go (i : Int) o, L go (i, o) = if i < (c.kids.length : Int) then bnd (nth c.kids i) fun x => bnd (E x b o) fun y => chk (I64 (i + 1)) (go (i + 1, y)) else some o) :
 itr L LF (0, out) = some (frees c.kids b out) := by
 rw [y9 (L := L) c.kids.length (fun i o => o.length + cnts (c.kids.drop i) ≤ 4000000) (fun i o => some (frees (c.kids.drop i) b o)) (by omega) (fun go i o hi ho hgo => ?_) (fun go o ho => ?_) (by simpa using ho)]
 ·rw [List.drop_zero]
 ·rw [List.drop_eq_getElem_cons hi, cnts] at ho
  have hb := fD.1 c.kids[i] b o
  rw [hL, if_pos (by omega), r8 hi, i9, hE i hi o (by omega), i9, o3 (by omega), hgo _ (by omega), List.drop_eq_getElem_cons hi, frees]
 ·rw [hL, if_neg (by omega), List.drop_length]; simp [frees]
theorem dB : ∀ (n : Nat) (c : PCore) (b out : List Int), c.cnt < n → c.nice → b.length + wK c ≤ 4000000 → out.length + 1 + cnt c ≤ 4000000 → s_l5Free n c b out = some (free c b out)
 | 0, d, _, _, h, _, _, _ => by omega
 | n + 1, c, b, out, h, hc, hb, ho => by
  show s_l5Free_b (s_l5Free n) c b out = _
  unfold s_l5Free_b
  have hc' := (t6 c).1 hc
  have hw := G9 c
  have hcc := cnt_eq c
  have hJ2 : ∀ o : List Int, o.length + cnt c ≤ 4000000 → s_l5Free_J2 (s_l5Free n) c b o = some (frees c.kids (b ++ c.params) o) := fun o ho => by
   unfold s_l5Free_J2
   rw [M8 _ (by omega), i9, o3 (by omega), eD (L := s_l5Free_L3 (s_l5Free n) c b) (E := s_l5Free n) c (b ++ c.params) o hc'.2.2.1 (by omega) (fun i hi o ho => dB n _ _ o (by have := B1 hi; omega) (s8 hc (List.getElem_mem hi)) (by have := E3 (List.getElem_mem hi); rw [List.length_append]; omega) ho) (fun go i o => rfl)]
  have hJ1 : ∀ x, s_l5Free_J1 (s_l5Free n) c b out x = some (frees c.kids (b ++ c.params) (if x = true then out ++ [c.number] else out)) := fun x => by
   unfold s_l5Free_J1
   cases x
   ·exact hJ2 out (by omega)
   ·rw [if_pos rfl, if_pos rfl, o3 (by simp; omega)]
    exact hJ2 _ (by simp; omega)
  rw [O0, i9, A5 _ _ (by omega), A5 _ _ (by omega), i9, i9]
  simp only [hJ1]
  rw [fC]
  unfold freeOne
  cases named c <;> cases b.contains c.number <;> cases out.contains c.number <;> rfl
theorem V9 (c : PCore) (hc : c.nice) (hb : wK c ≤ 1048576) : s_FreeVariables c = some (free c [] []) := by
 unfold s_FreeVariables s_l5FreeA
 have hc' := (t6 c).1 hc
 have hw := G9 c
 have hcc := cnt_eq c
 have hcw := K4.1 c
 have hJ2 : ∀ o : List Int, o.length ≤ 1 → s_l5FreeA_J2 c [] o = some (frees c.kids ([] ++ c.params) o) := fun o ho => by
  unfold s_l5FreeA_J2
  rw [M8 _ (by simp), i9, o3 (by simp; omega), eD (L := s_l5FreeA_L3 c []) (E := s_l5Free RF) c ([] ++ c.params) o hc'.2.2.1 (by omega) (fun i hi o ho => dB RF _ _ o (RF_cntK (by have := B1 hi; omega)) (s8 hc (List.getElem_mem hi)) (by have := E3 (List.getElem_mem hi); rw [List.length_append]; simp; omega) ho) (fun go i o => rfl)]
 have hJ1 : ∀ x, s_l5FreeA_J1 c [] [] x = some (frees c.kids ([] ++ c.params) (if x = true then [] ++ [c.number] else [])) := fun x => by
  unfold s_l5FreeA_J1
  cases x
  ·exact hJ2 [] (by simp)
  ·rw [if_pos rfl, if_pos rfl, o3 (by simp)]
   exact hJ2 _ (by simp)
 rw [O0, i9, A5 _ _ (by simp), i9]
 simp only [hJ1]
 rw [fC]
 unfold freeOne
 cases named c <;> rfl
theorem fY (l : List Int) (h : l.length ≤ 1000000000000) : s_l5Unique l = some (uniq [] l) := by
 unfold s_l5Unique
 rw [I7 (L := s_l5Unique_L1 l) l.length (fun i => some (uniq (l.take i) (l.drop i))) (by omega) (fun go i hi hgo => ?_) (fun go => ?_)]
 ·rfl
 ·show s_l5Unique_L1b l go i = _
  unfold s_l5Unique_L1b
  rw [if_pos (by omega), r8 hi, i9, D0, i9, o3 (by omega), A5 _ _ (by rw [List.length_take]; omega), i9, o3 (by omega), hgo, Int.toNat_natCast, List.drop_eq_getElem_cons hi, uniq, List.take_add_one, List.getElem?_eq_getElem hi]
  cases inside l[i] 0 99999 <;> cases (l.take i).contains l[i] <;> rfl
 ·show s_l5Unique_L1b l go _ = _
  unfold s_l5Unique_L1b
  rw [if_neg (by omega), List.drop_length]; simp [uniq]
theorem ite2 {p : Prop} [Decidable p] {a b : Option Bool} {x y : Bool} (h1 : p → a = some x) (h2 : ¬p → b = some y) : (if p then a else b) = some (if p then x else y) := by
 by_cases h : p
 ·rw [if_pos h, if_pos h, h1 h]
 ·rw [if_neg h, if_neg h, h2 h]
theorem toZero : PDat.mk 0 0 ([] : List UInt8) [] = zeroDat := rfl
theorem iS (c : PCore) (h : c.nice) : s_l5Shape c = some (shapeOK c) := by
 have hp : bnd s_PrimitiveNames (fun x3 => chk (I64 ((x3.length : Int) - 1)) <| bnd (s_l1In c.number 0 ((x3.length : Int) - 1)) fun x4 => some x4) = some (inside c.number 0 13) := by
  unfold s_PrimitiveNames
  rw [i9, o3 (by simp; omega), D0, i9]; rfl
 have hJ : ∀ b, s_l5Shape_J1 c b = some (!b && (if c.kind = 1 then decide ((c.params.length : Int) = 0) && (decide ((c.kids.length : Int) = 0) && c.datum.valid)
 else if c.kind = 2 then decide ((c.params.length : Int) = 0) && decide ((c.kids.length : Int) = 0)
 else if c.kind = 3 then decide ((c.params.length : Int) = 0) && (decide ((c.kids.length : Int) = 0) && inside c.number 0 13)
 else if c.kind = 4 then decide ((c.params.length : Int) = 0) && decide ((c.kids.length : Int) = 1)
 else if c.kind = 5 then decide ((c.params.length : Int) ≤ 8) && decide ((c.kids.length : Int) = 1)
 else if c.kind = 6 then decide ((c.params.length : Int) = 0) && inside (c.kids.length : Int) 1 9
 else if c.kind = 7 then decide ((c.params.length : Int) = 0) && decide ((c.kids.length : Int) = 3)
 else if c.kind = 8 then decide ((c.params.length : Int) = 0) && inside (c.kids.length : Int) 2 60
 else if c.kind = 9 then inside (c.params.length : Int) 1 60 && inside (c.kids.length : Int) 1 60
 else if c.kind = 10 then decide ((c.params.length : Int) = 0) && decide ((c.kids.length : Int) = 1)
 else if c.kind = 11 then decide ((c.params.length : Int) = 1) && decide ((c.kids.length : Int) = 1)
 else false)) := fun b => by
  unfold s_l5Shape_J1
  rw [hp, iR _ (z2 h), D0, D0, D0, D0]
  simp only [i9]
  generalize inside (c.kids.length : Int) 1 9 = y1
  generalize inside (c.kids.length : Int) 2 60 = y2
  generalize inside (c.kids.length : Int) 1 60 = y3
  generalize inside (c.params.length : Int) 1 60 = y4
  generalize inside c.number 0 13 = y5
  generalize c.datum.valid = y6
  cases b
  ·rw [if_neg (by simp), Bool.not_false, Bool.true_and]
   iterate 11 (refine ite2 (fun _ => ?_) fun _ => ?_; rotate_left)
   all_goals (repeat' split) <;> simp_all
  ·rfl
 unfold s_l5Shape shapeOK
 rw [Q7 RF _ _ (RF_cnt (z2 h)) (z2 h), O0, toZero]
 simp only [i9, hJ]
 generalize (if c.kind = 1 then decide ((c.params.length : Int) = 0) && (decide ((c.kids.length : Int) = 0) && c.datum.valid) else _) = z
 generalize PDat.eqb c.datum zeroDat = w
 generalize named c = y
 by_cases h1 : c.kind = 1 <;> by_cases h2 : c.number = 0 <;> cases w <;> cases y <;> simp [h1, h2]
theorem X3 (c : PCore) (hn : c.kids.length ≤ 1048576) : itr (i_coreShape_L3 c) LF 0 = some (c.kids.all fun x => !decide (x.kind = 8)) := by
 rw [cD (L := i_coreShape_L3 c) c.kids (fun x => !decide (x.kind = 8)) (some true) (some false) (by omega) (fun go i hi => ?_) (fun go => ?_)]
 ·cases c.kids.all fun x => !decide (x.kind = 8) <;> rfl
 ·show i_coreShape_L3b c go i = _
  unfold i_coreShape_L3b
  rw [if_pos (by omega), r8 hi, i9, o3 (by omega)]
  by_cases h : c.kids[i].kind = 8 <;> simp [h]
 ·show i_coreShape_L3b c go _ = _
  unfold i_coreShape_L3b
  rw [if_neg (by omega)]
theorem dN (c : PCore) (h : c.nice) : i_coreShape c = some (shapeOK c && seqOK c) := by
 have hc' := (t6 c).1 h
 have hp : bnd i_PrimitiveNames (fun x4 => some (decide (c.number < (x4.length : Int)))) = some (decide (c.number ≤ 13)) := by
  unfold i_PrimitiveNames
  rw [i9]
  show some (decide (c.number < (14 : Int))) = _
  congr 1
  exact decide_eq_decide.2 (by omega)
 have hJ : ∀ b, i_coreShape_J2 c b = some (if c.kind = 1 then !b && (decide ((c.params.length : Int) = 0) && (decide ((c.kids.length : Int) = 0) && c.datum.valid))
 else if c.kind = 2 then !b && (decide ((c.params.length : Int) = 0) && decide ((c.kids.length : Int) = 0))
 else if c.kind = 3 then !b && (decide ((c.params.length : Int) = 0) && (decide ((c.kids.length : Int) = 0) && inside c.number 0 13))
 else if c.kind = 4 then !b && (decide ((c.params.length : Int) = 0) && decide ((c.kids.length : Int) = 1))
 else if c.kind = 5 then !b && (decide ((c.params.length : Int) ≤ 8) && decide ((c.kids.length : Int) = 1))
 else if c.kind = 6 then !b && (decide ((c.params.length : Int) = 0) && inside (c.kids.length : Int) 1 9)
 else if c.kind = 7 then !b && (decide ((c.params.length : Int) = 0) && decide ((c.kids.length : Int) = 3))
 else if c.kind = 8 then !b && ((decide ((c.params.length : Int) = 0) && inside (c.kids.length : Int) 2 60) && c.kids.all fun x => !decide (x.kind = 8))
 else if c.kind = 9 then !b && (inside (c.params.length : Int) 1 60 && inside (c.kids.length : Int) 1 60)
 else if c.kind = 10 then !b && (decide ((c.params.length : Int) = 0) && decide ((c.kids.length : Int) = 1))
 else if c.kind = 11 then !b && (decide ((c.params.length : Int) = 1) && decide ((c.kids.length : Int) = 1))
 else false) := fun b => by
  unfold i_coreShape_J2
  rw [hp, iA _ (z2 h), X3 c hc'.2.2.1]
  simp only [i9]
  generalize (c.kids.all fun x => !decide (x.kind = 8)) = y5
  generalize c.datum.valid = y6
  unfold inside
  cases b
  ·rw [if_neg (by simp)]
   iterate 11 (refine ite2 (fun _ => ?_) fun _ => ?_; rotate_left)
   all_goals (repeat' split) <;> simp_all <;> omega
  ·rw [if_pos rfl]
   simp only [Bool.not_true, Bool.false_and, ite_self]
 have hJ1 : ∀ b, i_coreShape_J1 c b = (if b = true then some false else i_coreShape_J2 c (!(decide (c.number = 0) || (named c || decide (c.kind = 3))))) := fun b => by
  unfold i_coreShape_J1 named
  cases b
  ·by_cases h1 : c.number = 0 <;> by_cases h2 : c.kind = 2 <;> by_cases h3 : c.kind = 3 <;> by_cases h4 : c.kind = 4 <;> simp [h1, h2, h3, h4]
  ·rfl
 have hx : ∀ w, (!decide (c.kind = 1) && !w) = false → i_coreShape_J2 c (!(decide (c.number = 0) || (named c || decide (c.kind = 3)))) = some (((decide (c.kind = 1) || w) && ((decide (c.number = 0) || (named c || decide (c.kind = 3))) &&
 (if c.kind = 1 then decide ((c.params.length : Int) = 0) && (decide ((c.kids.length : Int) = 0) && c.datum.valid)
 else if c.kind = 2 then decide ((c.params.length : Int) = 0) && decide ((c.kids.length : Int) = 0)
 else if c.kind = 3 then decide ((c.params.length : Int) = 0) && (decide ((c.kids.length : Int) = 0) && inside c.number 0 13)
 else if c.kind = 4 then decide ((c.params.length : Int) = 0) && decide ((c.kids.length : Int) = 1)
 else if c.kind = 5 then decide ((c.params.length : Int) ≤ 8) && decide ((c.kids.length : Int) = 1)
 else if c.kind = 6 then decide ((c.params.length : Int) = 0) && inside (c.kids.length : Int) 1 9
 else if c.kind = 7 then decide ((c.params.length : Int) = 0) && decide ((c.kids.length : Int) = 3)
 else if c.kind = 8 then decide ((c.params.length : Int) = 0) && inside (c.kids.length : Int) 2 60
 else if c.kind = 9 then inside (c.params.length : Int) 1 60 && inside (c.kids.length : Int) 1 60
 else if c.kind = 10 then decide ((c.params.length : Int) = 0) && decide ((c.kids.length : Int) = 1)
 else if c.kind = 11 then decide ((c.params.length : Int) = 1) && decide ((c.kids.length : Int) = 1)
 else false))) && seqOK c) := fun w hw => by
  have hw' : (decide (c.kind = 1) || w) = true := by
   revert hw; clear hJ hJ1 hp
   generalize decide (c.kind = 1) = q
   cases w <;> cases q <;> simp
  rw [hJ, hw', Bool.not_not, Bool.true_and]
  unfold seqOK
  generalize (decide (c.number = 0) || (named c || decide (c.kind = 3))) = u
  generalize (c.kids.all fun x => !decide (x.kind = 8)) = y5
  congr 1
  by_cases h8 : c.kind = 8
  ·have n1 : ¬ c.kind = 1 := by omega
   have n2 : ¬ c.kind = 2 := by omega
   have n3 : ¬ c.kind = 3 := by omega
   have n4 : ¬ c.kind = 4 := by omega
   have n5 : ¬ c.kind = 5 := by omega
   have n6 : ¬ c.kind = 6 := by omega
   have n7 : ¬ c.kind = 7 := by omega
   rw [if_neg n1, if_neg n2, if_neg n3, if_neg n4, if_neg n5, if_neg n6, if_neg n7, if_pos h8, if_neg n1, if_neg n2, if_neg n3, if_neg n4, if_neg n5, if_neg n6, if_neg n7, if_pos h8, decide_eq_true h8, Bool.not_true, Bool.false_or]
   simp only [Bool.and_assoc]
  ·rw [if_neg h8, if_neg h8, decide_eq_false h8, Bool.not_false, Bool.true_or, Bool.and_true]
   cases u
   ·simp only [Bool.false_and, ite_self]
   ·simp only [Bool.true_and]
 unfold i_coreShape shapeOK
 rw [Q3 RF _ _ (RF_cnt (z2 h)) (z2 h), toZero]
 simp only [i9, hJ1]
 by_cases h1 : c.kind = 1
 ·rw [if_pos h1, if_neg (by simp)]
  exact hx (PDat.eqb c.datum zeroDat) (by simp [h1])
 ·rw [if_neg h1]
  cases hw : PDat.eqb c.datum zeroDat
  ·simp [h1]
  ·rw [if_neg (by simp)]
   exact hx true (by simp)
theorem Q5 : ∀ (n : Nat) (c : PCore) (deep nodes : Int), c.cnt < n → c.nice → 0 ≤ deep → deep ≤ 151 → 0 ≤ nodes → nodes ≤ 3000 → i_coreNodes n c deep nodes = some (meas c deep nodes)
 | 0, d, _, _, h, _, _, _, _, _ => by omega
 | n + 1, d, deep, nodes, h, hd, h1, h2, h3, h4 => by
  show i_coreNodes_b (i_coreNodes n) d deep nodes = _
  unfold i_coreNodes_b
  rw [meas_eq, o3 (by omega)]
  by_cases h5 : deep > 150
  ·rw [if_pos h5, if_pos (.inl h5)]
  ·rw [if_neg h5]
   by_cases h6 : nodes + 1 > 3000
   ·rw [if_pos h6, if_pos (.inr (.inl h6))]
   ·rw [if_neg h6, dN d hd, i9]
    cases h7 : shapeOK d && seqOK d
    ·simp
    ·rw [if_pos rfl, if_neg (by simp; omega)]
     have hs := ((t6 d).1 hd).2.2.1
     rw [y9 (L := i_coreNodes_L1 (i_coreNodes n) d deep) d.kids.length (fun i a => 0 ≤ a ∧ a ≤ 3000) (fun i a => some (measL (d.kids.drop i) (deep + 1) a)) (by omega) (fun go i a hi ha hgo => ?_) (fun go a ha => ?_) (by omega)]
     ·rfl
     ·show i_coreNodes_L1b (i_coreNodes n) d deep go i a = _
      unfold i_coreNodes_L1b
      rw [if_pos (by omega), r8 hi, i9, o3 (by omega), Q5 n _ _ _ (by have := B1 hi; omega) (s8 hd (List.getElem_mem hi)) (by omega) (by omega) ha.1 ha.2, i9]
      rw [List.drop_eq_getElem_cons hi, measL]
      by_cases h8 : (meas d.kids[i] (deep + 1) a).1 = true
      ·rw [if_pos h8, if_pos h8, o3 (by omega), hgo]
       have := (N7.1 d.kids[i] (deep + 1) a)
       have h9 := this.1.1 h8
       have h10 := this.2 h8
       omega
      ·rw [if_neg h8, if_neg h8]
     ·show i_coreNodes_L1b (i_coreNodes n) d deep go _ a = _
      unfold i_coreNodes_L1b
      rw [if_neg (by omega), List.drop_length]; rfl
theorem s_l5Few_eq (n : Nat) : ∀ (d : PCore) (left : Int), d.cnt < n → d.nice → 0 ≤ left → left ≤ 3000 → s_l5Few n d left = some (decide (0 ≤ few d left), few d left) := by
 induction n with
 | zero => intro d _ h; omega
 | succ n ih =>
  intro d left h hd h1 h2
  show s_l5Few_b (s_l5Few n) d left = _
  unfold s_l5Few_b
  rw [few_eq, o3 (by omega)]
  have hs := ((t6 d).1 hd).2.2.1
  rw [y9 (L := s_l5Few_L1 (s_l5Few n) d) d.kids.length (fun i a => -1 ≤ a ∧ a ≤ 3000) (fun i a => some (decide (0 ≤ fews (d.kids.drop i) a), fews (d.kids.drop i) a)) (by omega) (fun go i a hi ha hgo => ?_) (fun go a ha => ?_) (by omega)]
  ·rw [List.drop_zero]
  ·show s_l5Few_L1b (s_l5Few n) d go i a = _
   unfold s_l5Few_L1b s_l5Few_J2
   rw [if_pos (by omega), List.drop_eq_getElem_cons hi, fews]
   by_cases h0 : 0 ≤ a
   ·rw [if_pos (by simpa using h0), if_pos h0, r8 hi]
    rw [i9]
    rw [ih _ _ (by have := B1 hi; omega) (s8 hd (List.getElem_mem hi)) h0 ha.2]
    rw [i9]
    have := (T9.1 d.kids[i] a h0).1
    generalize few d.kids[i] a = z at this ⊢
    rw [o3 (by omega), hgo _ (by omega)]
   ·rw [if_neg (by simpa using h0), if_neg h0]
  ·show s_l5Few_L1b (s_l5Few n) d go _ a = _
   unfold s_l5Few_L1b s_l5Few_J2
   rw [if_neg (by omega), List.drop_length]
   simp only [fews, Bool.false_eq_true, if_false]
   rfl
theorem aK (n : Nat) : ∀ (d : PCore), d.cnt < n → d.nice → d.cnt ≤ 1048576 → s_DepthOfCore n d = some d.depth := by
 induction n with
 | zero => intro d h; omega
 | succ n ih =>
  intro d h hd hc
  show s_DepthOfCore_b (s_DepthOfCore n) d = _
  unfold s_DepthOfCore_b
  have hs := ((t6 d).1 hd).2.2.1
  have hmax : ∀ x ∈ d.kids, 0 ≤ x.depth ∧ x.depth ≤ 1048577 := fun x hx => by
   have h1 := T5.1 x
   have h2 := H0 hx
   omega
  rw [fH (L := s_DepthOfCore_L1 (s_DepthOfCore n) d) d.kids.length (fun i a => 0 ≤ a ∧ a ≤ 1048577) (fun i a => some (max a (depths (d.kids.drop i)) + 1)) (by omega) (fun go i a hi ha hgo => ?_) (fun go a ha => ?_) (by omega)]
  ·rw [T6, List.drop_zero]
   have := u5 d.kids
   rw [Int.max_eq_right this]
  ·show s_DepthOfCore_L1b (s_DepthOfCore n) d go a i = _
   unfold s_DepthOfCore_L1b
   have hx := hmax _ (List.getElem_mem hi)
   rw [if_pos (by omega), r8 hi]
   rw [i9]
   rw [ih _ (by have := B1 hi; omega) (s8 hd (List.getElem_mem hi)) (by have := B1 hi; omega)]
   rw [i9]
   rw [List.drop_eq_getElem_cons hi, depths]
   generalize depth d.kids[i] = z at hx ⊢
   rw [o3 (by omega), hgo _ (by omega), Int.max_assoc]
  ·show s_DepthOfCore_L1b (s_DepthOfCore n) d go a _ = _
   unfold s_DepthOfCore_L1b
   rw [if_neg (by omega), List.drop_length, o3 (by omega)]
   simp only [depths]
   rw [Int.max_eq_left ha.1]
theorem aF : ∀ (n : Nat) (d : PCore), d.cnt < n → d.nice → s_l5Nodes n d = some d.okAll
 | 0, d, h, _ => by omega
 | n + 1, d, h, hd => by
  show s_l5Nodes_b (s_l5Nodes n) d = _
  unfold s_l5Nodes_b
  have hs := ((t6 d).1 hd).2.2.1
  rw [okAll_eq, I7 (L := s_l5Nodes_L1 (s_l5Nodes n) d) d.kids.length (fun i => some (okAlls (d.kids.drop i) && ((!decide (d.kind = 8) || (d.kids.drop i).all fun x => !decide (x.kind = 8)) && shapeOK d))) (by omega) (fun go i hi hgo => ?_) (fun go => ?_)]
  ·rw [List.drop_zero]
   unfold seqOK
   generalize okAlls d.kids = a
   generalize shapeOK d = b
   generalize (!decide (d.kind = 8) || d.kids.all fun x => !decide (x.kind = 8)) = e
   cases a <;> cases b <;> cases e <;> rfl
  ·show s_l5Nodes_L1b (s_l5Nodes n) d go i = _
   unfold s_l5Nodes_L1b s_l5Nodes_J2
   rw [if_pos (by omega), r8 hi, i9]
   rw [aF n _ (by have := B1 hi; omega) (s8 hd (List.getElem_mem hi)), i9]
   rw [o3 (by omega), hgo, List.drop_eq_getElem_cons hi, okAlls, List.all_cons]
   by_cases h8 : d.kind = 8 <;> by_cases h9 : d.kids[i].kind = 8 <;> cases okAll d.kids[i] <;> simp [h8, h9]
  ·show s_l5Nodes_L1b (s_l5Nodes n) d go _ = _
   unfold s_l5Nodes_L1b
   rw [if_neg (by omega), List.drop_length, iS _ hd]
   simp [okAlls]
end Go.Abs

namespace Go.Abs
open PCore
theorem mget_nil {α : Type} [DecidableEq α] (x : α) : mget ([] : List (α × Int)) x = 0 := rfl
theorem eG {α β : Type} [DecidableEq α] (k x : α) (v : β) : ∀ m : List (α × β), mlook (mput m k v) x = if x = k then some v else mlook m x
 | [] => by unfold mput mlook; rfl
 | p :: r => by
  unfold mput
  by_cases h : k = p.1
  ·rw [if_pos h]
   unfold mlook
   by_cases h2 : x = k
   ·rw [if_pos h2, if_pos h2]
   ·rw [if_neg h2, if_neg h2, if_neg (by rw [← h]; exact h2)]
  ·rw [if_neg h]
   unfold mlook
   by_cases h2 : x = p.1
   ·rw [if_pos h2, if_neg (by rw [h2]; exact fun e => h e.symm), if_pos h2]
   ·rw [if_neg h2, if_neg h2, eG k x v r]
theorem cJ {α : Type} [DecidableEq α] (m : List (α × Int)) (k x : α) (v : Int) : mget (mput m k v) x = if x = k then v else mget m x := by
 unfold mget; rw [eG]; split <;> rfl
def holds (m : List (Int × Int)) (s : List Int) : Prop := ∀ x, mget m x = if s.contains x = true then 1 else 0
theorem hO : holds [] [] := fun x => rfl
theorem hU {m : List (Int × Int)} {s : List Int} (h : holds m s) (y : Int) : holds (mput m y 1) (s ++ [y]) := fun x => by
 rw [cJ, h x]
 by_cases e : x = y <;> by_cases e2 : s.contains x = true <;> simp_all
theorem holds_1 {m : List (Int × Int)} {s : List Int} (h : holds m s) (y : Int) : (mget m y = 1) = (s.contains y = true) := by
 rw [h y]; split <;> simp_all
theorem holds_0 {m : List (Int × Int)} {s : List Int} (h : holds m s) (y : Int) : (mget m y = 0) = (s.contains y = false) := by
 rw [h y]; split <;> simp_all
def difM : List (Int × Int) → List Int → Option (List (Int × Int))
 | m, [] => some m
 | m, x :: r => if inside x 0 99999 = true ∧ ¬ mget m x = 1 then difM (mput m x 1) r else none
def difL : List (Int × Int) → List (List Int) → Bool
 | _, [] => true
 | m, l :: r => match difM m l with | none => false | some m2 => difL m2 r
theorem bI : ∀ (l t s : List Int) (m : List (Int × Int)), holds m s → (difM m l = none → uniq s (l ++ t) = false) ∧ ∀ m2, difM m l = some m2 → holds m2 (s ++ l) ∧ uniq s (l ++ t) = uniq (s ++ l) t
 | [], t, s, m, h => ⟨fun h => by simp [difM] at h, fun m2 e => by
  have : m = m2 := Option.some.inj e
  subst this
  rw [List.append_nil]; exact ⟨h, rfl⟩⟩
 | x :: r, t, s, m, h => by
  have ih := bI r t (s ++ [x]) (mput m x 1) (hU h x)
  unfold difM
  rw [List.cons_append, uniq]
  have h1 := holds_1 h x
  by_cases hx : inside x 0 99999 = true ∧ ¬ mget m x = 1
  ·rw [if_pos hx]
   have h2 : s.contains x = false := by
    have := hx.2
    rw [h1] at this; simpa using this
   rw [hx.1, h2]
   have e : s ++ x :: r = s ++ [x] ++ r := by simp
   rw [e]
   exact ih
  ·rw [if_neg hx]
   refine ⟨fun _ => ?_, fun m2 e => by cases e⟩
   cases hi : inside x 0 99999
   ·rfl
   ·have : mget m x = 1 := Classical.byContradiction fun h3 => hx ⟨hi, h3⟩
    rw [h1] at this
    rw [this]; rfl
theorem i_dif_L2_eq (x2 : Int) (hx2 : 0 ≤ x2 ∧ x2 ≤ 100) (go4 : (Int × (List (Int × Int))) → Option Bool) (l : List Int) (hl : l.length ≤ 1000000000000) (m : List (Int × Int)) : itr (i_differentVariables_L2 x2 go4 l) LF (0, m) = match difM m l with | none => some false | some m2 => go4 (x2 + 1, m2) := by
 rw [y9 (L := i_differentVariables_L2 x2 go4 l) l.length (fun _ _ => True) (fun i m => match difM m (l.drop i) with | none => some false | some m2 => go4 (x2 + 1, m2)) (by omega) (fun go i m hi _ hgo => ?_) (fun go m _ => ?_) trivial]
 ·rw [List.drop_zero]
 ·show i_differentVariables_L2b x2 go4 l go i m = _
  unfold i_differentVariables_L2b
  rw [if_pos (by omega), r8 hi, i9, o3 (by omega), hgo _ trivial, List.drop_eq_getElem_cons hi, difM]
  unfold inside
  by_cases h1 : l[i] < 0
  ·rw [if_pos h1, if_neg (by simp; omega)]
  ·rw [if_neg h1]
   by_cases h2 : l[i] > 99999
   ·rw [if_pos h2, if_neg (by simp; omega)]
   ·rw [if_neg h2]
    by_cases h3 : mget m l[i] = 1
    ·rw [if_pos h3, if_neg (by simp [h3])]
    ·rw [if_neg h3, if_pos (by simp [h3]; omega)]
 ·show i_differentVariables_L2b x2 go4 l go _ m = _
  unfold i_differentVariables_L2b
  rw [if_neg (by omega), List.drop_length, o3 (by omega)]; rfl
theorem L6 (a b : List Int) (ha : a.length ≤ 1000000000000) (hb : b.length ≤ 1000000000000) : i_differentVariables [a, b] = some (uniq [] (a ++ b)) := by
 unfold i_differentVariables
 have h : itr (i_differentVariables_L1 [a, b]) LF (0, []) = some (difL [] [a, b]) := by
  rw [y9 (L := i_differentVariables_L1 [a, b]) 2 (fun _ _ => True) (fun i m => some (difL m ([a, b].drop i))) (by omega) (fun go i m hi _ hgo => ?_) (fun go m _ => ?_) trivial]
  ·rfl
  ·show i_differentVariables_L1b [a, b] go i m = _
   unfold i_differentVariables_L1b
   have hi' : i < [a, b].length := hi
   have hle : ([a, b][i]).length ≤ 1000000000000 := by
    have := List.getElem_mem hi'
    simp only [List.mem_cons, List.not_mem_nil, or_false] at this
    rcases this with h | h <;> rw [h] <;> assumption
   rw [if_pos (by simp; omega), r8 hi', i9, i_dif_L2_eq i (by omega) go _ hle m, List.drop_eq_getElem_cons hi', difL]
   cases difM m [a, b][i] with
   | none => rfl
   | some m2 => exact hgo m2 trivial
  ·rfl
 rw [h]
 congr 1
 unfold difL
 have h1 := bI a b [] [] hO
 cases e : difM [] a with
 | none => rw [h1.1 e]
 | some m2 =>
  have h2 := h1.2 m2 e
  rw [h2.2]
  show difL m2 [b] = _
  unfold difL
  have h3 := bI b [] ([] ++ a) m2 h2.1
  rw [List.append_nil] at h3
  cases e2 : difM m2 b with
  | none => rw [h3.1 e2]
  | some m3 => rw [(h3.2 m3 e2).2]; rfl
theorem itr_exA {A R : Type} {L : (Int × A → Option R) → Int × A → Option R} (n : Nat) (I : Nat → A → Prop) (Q : R → Prop) (hn : n ≤ 9223372036854775807)
 (step : ∀ go (i : Nat) a, i < n → I i a → (∀ a', I (i + 1) a' → ∃ r, go ((i : Int) + 1, a') = some r ∧ Q r) → ∃ r, L go ((i : Int), a) = some r ∧ Q r) (fin : ∀ go a, I n a → ∃ r, L go ((n : Int), a) = some r ∧ Q r) {a : A} (h0 : I 0 a) : ∃ r, itr L LF (0, a) = some r ∧ Q r := by
 refine fI Q (fun v : Int × A => (0 ≤ v.1 ∧ v.1 ≤ n) ∧ I v.1.toNat v.2) (fun v : Int × A => n - v.1.toNat) (fun go v hv hgo => ?_) (0, a) ⟨⟨by omega, by omega⟩, h0⟩ (by simp; omega)
 obtain ⟨v1, v2⟩ := v
 obtain ⟨i, rfl⟩ := Int.eq_ofNat_of_zero_le hv.1.1
 show ∃ r, L go ((i : Int), v2) = some r ∧ Q r
 have h1 : (i : Int) ≤ n := hv.1.2
 by_cases h : i < n
 ·exact step go i v2 h hv.2 fun a' ha => hgo ((i : Int) + 1, a') ⟨⟨by show 0 ≤ (i : Int) + 1; omega, by show (i : Int) + 1 ≤ n; omega⟩, ha⟩ (by show n - ((i : Int) + 1).toNat < n - (i : Int).toNat; omega)
 ·have : i = n := by omega
  subst this; exact fin go v2 hv.2
def cntm (m : List (Int × Int)) (B : List Int) : Prop := ∀ x, mget m x = (B.count x : Int)
theorem cntm_nil : cntm [] [] := fun x => rfl
theorem cntm_up {m : List (Int × Int)} {B : List Int} (h : cntm m B) (y : Int) : cntm (mput m y (mget m y + 1)) (B ++ [y]) := fun x => by
 rw [cJ, List.count_append]
 have h1 := h x
 have h2 := h y
 by_cases e : x = y
 ·subst e; rw [if_pos rfl, h2]; simp
 ·rw [if_neg e, h1]
  have : List.count x [y] = 0 := List.count_eq_zero.2 (by simp [e])
  omega
theorem cntm_dn {m : List (Int × Int)} {B r : List Int} {y : Int} (h : cntm m (B ++ y :: r)) : cntm (mput m y (mget m y - 1)) (B ++ r) := fun x => by
 have h1 := h x
 have h2 := h y
 rw [List.count_append, List.count_cons] at h1 h2
 rw [cJ, List.count_append]
 by_cases e : x = y
 ·subst e; rw [if_pos rfl, h2]; simp only [beq_self_eq_true, if_true]; omega
 ·rw [if_neg e, h1, if_neg (by simp; exact fun h => e h.symm)]; omega
theorem cntm_le {m : List (Int × Int)} {B : List Int} (h : cntm m B) (y : Int) : 0 ≤ mget m y ∧ mget m y ≤ B.length := by
 rw [h y]; have := List.count_le_length (a := y) (l := B); omega
theorem cntm_0 {m : List (Int × Int)} {B : List Int} (h : cntm m B) (y : Int) : decide (mget m y = 0) = !B.contains y := by
 rw [h y]
 have h1 := List.count_eq_zero (a := y) (l := B)
 by_cases h2 : y ∈ B
 ·have h3 : ¬ B.count y = 0 := fun h => h1.1 h h2
  have h4 : B.contains y = true := by simpa using h2
  rw [h4]; simp; omega
 ·have h3 := h1.2 h2
  have h4 : B.contains y = false := by simpa using h2
  rw [h4, h3]; rfl
def seenOK (s : Option (List (Int × Int))) (l : List Int) : Prop := holds (s.getD []) l
theorem E7 {l : List Int} {s : Option (List (Int × Int))} (h : seenOK s l) (hl : l.length ≤ 1000000000000) (x : Int) : ∃ s2, i_numberSet_add l s x = some (if l.contains x = true then l else l ++ [x], s2) ∧ seenOK s2 (if l.contains x = true then l else l ++ [x]) := by
 have hJ : i_numberSet_add l s x = i_numberSet_add_J1 l x (s.getD []) := by
  unfold i_numberSet_add
  cases s with
  | none => rw [if_pos rfl]; rfl
  | some m => rw [if_neg (by simp)]; rfl
 rw [hJ]
 unfold i_numberSet_add_J1
 have h0 := holds_0 h x
 by_cases hx : l.contains x = true
 ·rw [if_neg (by rw [h0, hx]; simp), if_pos hx]
  exact ⟨_, rfl, h⟩
 ·have hx' : l.contains x = false := by simpa using hx
  rw [if_pos (by rw [h0]; exact hx'), if_neg hx, o3 (by simp; omega)]
  exact ⟨_, rfl, hU h x⟩
theorem L7 : ∀ (n : Nat) (c : PCore) (B : List Int) (bound : List (Int × Int)) (list : List Int) (seen : Option (List (Int × Int))), c.cnt < n → c.nice → cntm bound B → seenOK seen list → B.length + wK c ≤ 4000000 → list.length + 1 + cnt c ≤ 4000000 →
 ∃ r, i_freeIn n c bound list seen = some r ∧ (cntm r.1 B ∧ r.2.1 = free c B list ∧ seenOK r.2.2 r.2.1)
 | 0, c, _, _, _, _, h, _, _, _, _, _ => by omega
 | n + 1, c, B, bound, list, seen, h, hc, hb, hs, hB, hl => by
  show ∃ r, i_freeIn_b (i_freeIn n) c bound list seen = some r ∧ _
  have hc' := (t6 c).1 hc
  have hw := G9 c
  have hcc := cnt_eq c
  have h5 : ∀ (l : List Int) (s : Option (List (Int × Int))) (m : List (Int × Int)), cntm m (B ++ c.params) → l = free c B list → seenOK s l → ∃ r, itr (i_freeIn_L5 c l s) LF (0, m) = some r ∧ (cntm r.1 B ∧ r.2.1 = free c B list ∧ seenOK r.2.2 r.2.1) := fun l s m hm hl hs => by
   refine itr_exA (L := i_freeIn_L5 c l s) c.params.length (fun i m => cntm m (B ++ c.params.drop i)) _ (by omega) (fun go i m hi hm hgo => ?_) (fun go m hm => ?_) (by simpa using hm)
   ·show ∃ r, i_freeIn_L5b c l s go i m = some r ∧ _
    unfold i_freeIn_L5b
    have hq := cntm_le hm c.params[i]
    rw [List.length_append, List.length_drop] at hq
    rw [List.drop_eq_getElem_cons hi] at hm
    rw [if_pos (by omega), r8 hi, i9, o3 (by omega), o3 (by omega)]
    exact hgo _ (cntm_dn hm)
   ·show ∃ r, i_freeIn_L5b c l s go _ m = some r ∧ _
    unfold i_freeIn_L5b
    rw [List.drop_length, List.append_nil] at hm
    rw [if_neg (by omega)]
    exact ⟨_, rfl, hm, hl, hs⟩
  have h4 : ∀ (l : List Int) (s : Option (List (Int × Int))) (m : List (Int × Int)), cntm m (B ++ c.params) → frees c.kids (B ++ c.params) l = free c B list → l.length + cnts c.kids ≤ 4000000 → seenOK s l → ∃ r, itr (i_freeIn_L4 (i_freeIn n) c) LF (0, m, l, s) = some r ∧ (cntm r.1 B ∧ r.2.1 = free c B list ∧ seenOK r.2.2 r.2.1) := fun l s m hm hl hll hs => by
   refine itr_exA (L := i_freeIn_L4 (i_freeIn n) c) c.kids.length (fun i v => cntm v.1 (B ++ c.params) ∧ frees (c.kids.drop i) (B ++ c.params) v.2.1 = free c B list ∧ v.2.1.length + cnts (c.kids.drop i) ≤ 4000000 ∧ seenOK v.2.2 v.2.1) _ (by omega) (fun go i v hi hv hgo => ?_) (fun go v hv => ?_) (by rw [List.drop_zero]; exact ⟨hm, hl, hll, hs⟩)
   ·obtain ⟨m, l, s⟩ := v
    obtain ⟨g1, g2, g3, g4⟩ := hv
    show ∃ r, i_freeIn_L4b (i_freeIn n) c go i m l s = some r ∧ _
    unfold i_freeIn_L4b
    rw [List.drop_eq_getElem_cons hi] at g2 g3
    unfold frees at g2
    unfold cnts at g3
    simp only at g2 g3
    obtain ⟨r, e1, e2, e3, e4⟩ := L7 n c.kids[i] (B ++ c.params) m l s (by have := B1 hi; omega) (s8 hc (List.getElem_mem hi)) g1 g4 (by have := E3 (List.getElem_mem hi); rw [List.length_append]; omega) (by omega)
    have hfl := fD.1 c.kids[i] (B ++ c.params) l
    rw [if_pos (by omega), r8 hi, i9, e1, i9, o3 (by omega)]
    refine hgo (r.1, r.2.1, r.2.2) ⟨e2, ?_, ?_, e4⟩
    ·show frees _ _ r.2.1 = _
     rw [e3]; exact g2
    ·show r.2.1.length + _ ≤ _
     rw [e3]; omega
   ·obtain ⟨m, l, s⟩ := v
    obtain ⟨g1, g2, g3, g4⟩ := hv
    show ∃ r, i_freeIn_L4b (i_freeIn n) c go _ m l s = some r ∧ _
    unfold i_freeIn_L4b
    rw [if_neg (by omega)]
    rw [List.drop_length] at g2
    exact h5 l s m g1 g2 g4
  have h3 : ∀ (l : List Int) (s : Option (List (Int × Int))), frees c.kids (B ++ c.params) l = free c B list → l.length + cnts c.kids ≤ 4000000 → seenOK s l → ∃ r, i_freeIn_J2 (i_freeIn n) c bound l s = some r ∧ (cntm r.1 B ∧ r.2.1 = free c B list ∧ seenOK r.2.2 r.2.1) := fun l s hl hll hs => by
   unfold i_freeIn_J2
   refine itr_exA (L := i_freeIn_L3 (i_freeIn n) c l s) c.params.length (fun i m => cntm m (B ++ c.params.take i)) _ (by omega) (fun go i m hi hm hgo => ?_) (fun go m hm => ?_) (by simpa using hb)
   ·show ∃ r, i_freeIn_L3b (i_freeIn n) c l s go i m = some r ∧ _
    unfold i_freeIn_L3b
    have hq := cntm_le hm c.params[i]
    rw [List.length_append, List.length_take] at hq
    rw [if_pos (by omega), r8 hi, i9, o3 (by omega), o3 (by omega)]
    refine hgo _ ?_
    have := cntm_up hm c.params[i]
    rw [List.append_assoc] at this
    rw [List.take_add_one, List.getElem?_eq_getElem hi]
    exact this
   ·show ∃ r, i_freeIn_L3b (i_freeIn n) c l s go _ m = some r ∧ _
    unfold i_freeIn_L3b
    rw [if_neg (by omega)]
    rw [List.take_length] at hm
    exact h4 l s m hm hl hll hs
  have hJ : ∀ x, (x = (named c && !B.contains c.number)) → ∃ r, i_freeIn_J1 (i_freeIn n) c bound list seen x = some r ∧ (cntm r.1 B ∧ r.2.1 = free c B list ∧ seenOK r.2.2 r.2.1) := fun x hx => by
   unfold i_freeIn_J1
   have hfe := fC c B list
   unfold freeOne at hfe
   cases hxx : x
   ·rw [if_neg (by simp)]
    refine h3 list seen ?_ (by omega) hs
    rw [hfe, if_neg]
    rw [← Bool.and_assoc, ← hx, hxx]; simp
   ·rw [if_pos rfl]
    obtain ⟨s2, e1, e2⟩ := E7 hs (by omega) c.number
    rw [e1, i9]
    refine h3 _ s2 ?_ ?_ e2
    ·rw [hfe, ← Bool.and_assoc, ← hx, hxx, Bool.true_and]
     cases list.contains c.number <;> rfl
    ·show List.length (if list.contains c.number = true then list else list ++ [c.number]) + _ ≤ _
     split
     ·omega
     ·rw [List.length_append]; simp; omega
  unfold i_freeIn_b
  have h0 := cntm_0 hb c.number
  unfold named at hJ
  by_cases k2 : c.kind = 2
  ·rw [if_pos k2]; exact hJ _ (by rw [h0]; simp [k2])
  ·rw [if_neg k2]
   by_cases k4 : c.kind = 4
   ·rw [if_pos k4]; exact hJ _ (by rw [h0]; simp [k4])
   ·rw [if_neg k4]; exact hJ _ (by simp [k2, k4])
theorem U6 (c : PCore) (hc : c.nice) (hb : wK c ≤ 1048576) : i_FreeVariables c = some (free c [] []) := by
 unfold i_FreeVariables
 have hcw := K4.1 c
 obtain ⟨r, e1, e2, e3, e4⟩ := L7 RF c [] [] [] none (RF_cntK (by omega)) hc cntm_nil hO (by simp; omega) (by simp; omega)
 rw [e1, i9, e3]
theorem eC (c : PCore) (h : wK c ≤ 1048576) : (free c [] []).length ≤ 1048577 := by
 have h1 := fD.1 c [] []
 have h2 := K4.1 c
 simp at h1; omega
theorem dP (c : PCore) (hc : c.nice) (hb : wK c ≤ 1048576) : i_validCore c = some c.valid := by
 unfold i_validCore PCore.valid
 have hcw := K4.1 c
 have h1 := eC c hb
 have h2 := eW.1 c
 rw [Q5 RF c 1 0 (RF_cntK (by omega)) hc (by omega) (by omega) (by omega) (by omega), i9, meas_tree, U6 c hc hb, R1 c hc hb, i9, i9, L6 _ _ (by omega) (by omega), i9]
 cases c.tree <;> rfl
theorem fV (l : List Int) (h : l.length ≤ 2000000) : itr (s_IsCore_L1 l l) LF 0 = some true := by
 rw [I7 (L := s_IsCore_L1 l l) l.length (fun _ => some true) (by omega) (fun go i hi hgo => ?_) (fun go => ?_)]
 ·show s_IsCore_L1b l l go i = _
  unfold s_IsCore_L1b
  rw [if_pos (by omega), r8 hi, i9, A5 _ _ (by omega), i9, if_pos (by simp), o3 (by omega), hgo]
 ·show s_IsCore_L1b l l go _ = _
  unfold s_IsCore_L1b
  rw [if_neg (by omega)]
theorem iT (c : PCore) (hc : c.nice) (hcc : c.cnt ≤ 1048576) : s_l5Small c = some (decide (0 ≤ few c 3000)) := by
 unfold s_l5Small
 rw [s_l5Few_eq RF c 3000 (RF_cntK (by omega)) hc (by omega) (by omega), i9]
theorem iU (c : PCore) (hc : c.nice) (hb : wK c ≤ 1048576) : s_l5Valid c = some c.valid := by
 unfold s_l5Valid s_IsCore PCore.valid
 have hcw := K4.1 c
 have h1 := eC c hb
 have h2 := eW.1 c
 rw [iT c hc (by omega), V9 c hc hb, aK RF c (RF_cntK (by omega)) hc (by omega), aF RF c (RF_cntK (by omega)) hc, aE RF c [] (RF_cntK (by omega)) hc (by simp; omega), ← few_tree]
 rw [i9, i9, i9, i9, i9, M8 _ (by omega), i9, i9, o3 (by simp; omega), List.nil_append, fY _ (by rw [List.length_append]; omega), i9, i9, fV _ (by omega)]
 by_cases g1 : 0 ≤ few c 3000 <;> by_cases g2 : c.depth ≤ 150 <;> cases c.okAll <;> cases uniq [] (free c [] [] ++ bnds c) <;> simp [g1, g2, show (150 < c.depth) = ¬ c.depth ≤ 150 from propext ⟨fun h => by omega, fun h => by omega⟩]
end Go.Abs

namespace Go.Abs
open PCore
theorem wfK_len {c : PCore} (h : c.wf) : c.params.length ≤ 9223372036854775807 ∧ c.datum.wf ∧ c.kids.length ≤ 9223372036854775807 ∧ ∀ x ∈ c.kids, x.wf := by
 have := (PCore.wf_eq c).1 h
 exact ⟨this.2.2.1.1, this.2.2.2.1, this.2.2.2.2.1, fun x hx => PCore.wfs_mem this.2.2.2.2.2 hx⟩
theorem szIntS_eq (l : List Int) (h : l.length ≤ 9223372036854775807) (left : Int) (h0 : 0 ≤ left) (h1 : left ≤ 1048576) : w_szIntS l left = some (szw l.length left) := by
 unfold w_szIntS
 rw [o3 (by omega)]
 unfold szw
 split <;> rfl
theorem w_szK_eq : ∀ n : Nat, (∀ c : PCore, c.wf → ∀ left : Int, 0 ≤ left → left ≤ 1048576 → 2 * left + 2 ≤ n → w_szCore n c left = some (szw (wK c) left)) ∧ (∀ ds : List PCore, ds.length ≤ 9223372036854775807 → (∀ x ∈ ds, x.wf) → ∀ left : Int, 0 ≤ left → left ≤ 1048576 → 2 * left + 1 ≤ n → w_szCoreS n ds left = some (szw (wKs ds) left))
 | 0 => ⟨fun d _ left h1 _ h2 => by omega, fun ds _ _ left h1 _ h2 => by omega⟩
 | n + 1 => by
  have ih := w_szK_eq n
  refine ⟨fun c hw left h0 h1 h => ?_, fun ds hl hw left h0 h1 h => ?_⟩
  ·show w_szCore_b (w_szCore n) (w_szCoreS n) c left = _
   unfold w_szCore_b
   have hw' := wfK_len hw
   rw [szIntS_eq _ hw'.1 _ h0 h1, i9, G9, ← dD, ← dD]
   by_cases hx : szw c.params.length left < 0
   ·rw [if_pos hx, gD hx]
    have e : szw (wD c.datum) (-1) = -1 := by unfold szw; rw [if_pos (by omega)]
    rw [e]
    have e : szw (wKs c.kids) (-1) = -1 := by unfold szw; rw [if_pos (by omega)]
    rw [e]
   ·have hp := szw_pos hx
    rw [if_neg hx, (w_sz_eq RF).1 c.datum hw'.2.1 _ (by omega) (by omega) (by rw [RF_eq]; omega), i9]
    by_cases hy : szw (wD c.datum) (szw c.params.length left) < 0
    ·rw [if_pos hy, gD hy]
     have e : szw (wKs c.kids) (-1) = -1 := by unfold szw; rw [if_pos (by omega)]
     rw [e]
    ·have hq := szw_pos hy
     rw [if_neg hy, ih.2 c.kids hw'.2.2.1 hw'.2.2.2 _ (by omega) (by omega) (by omega), i9, szw_if]
  ·show w_szCoreS_b (w_szCore n) (w_szCoreS n) ds left = _
   unfold w_szCoreS_b
   rw [wKs_eq]
   refine szS_eq (L := w_szCoreS_L1 (w_szCore n) ds) (E := w_szCore n) wK ds left (fun x hx m hm hm2 => ih.1 x (hw x hx) m hm (by omega) ?_) (fun go left i => rfl) ⟨h0, h1⟩ hl
   have : 0 < ds.length := List.length_pos_of_mem hx
   omega
theorem w_toK_eq : ∀ n : Nat, (∀ c : PCore, 2 * c.cnt + 1 < n → c.nice → w_toCore n c = some c) ∧ (∀ ds : List PCore, 2 * PCore.cnts ds < n → ds.length ≤ 1048576 → nices ds → w_toCoreS n ds = some ds)
 | 0 => ⟨fun d h => by omega, fun ds h => by omega⟩
 | n + 1 => by
  have ih := w_toK_eq n
  refine ⟨fun c h hs => ?_, fun ds h hl hw => ?_⟩
  ·show w_toCore_b (w_toCore n) (w_toCoreS n) c = _
   unfold w_toCore_b w_toIntS
   have hc := PCore.cnt_eq c
   have hc' := (t6 c).1 hs
   rw [toS_eq' (L := w_toIntS_L1 c.params) 0 c.params 8 (by omega) hc'.1 (fun go i out => rfl), i9, toDatum_eq (z2 hs), i9, ih.2 c.kids (by omega) hc'.2.2.1 hc'.2.2.2, i9]
   cases c; rfl
  ·show w_toCoreS_b (w_toCore n) (w_toCoreS n) ds = _
   unfold w_toCoreS_b
   exact toS_eq (L := w_toCoreS_L1 (w_toCore n) ds) (T := w_toCore n) _ ds 120 (by omega) hl (fun x hx => ih.1 x (by have := PCore.cnts_mem hx; omega) (I8 hw hx)) (fun go i out => rfl)
theorem w_eqK_eq : ∀ n : Nat, (∀ c : PCore, 2 * c.cnt + 1 < n → c.nice → w_eqCore n c c = some true) ∧ (∀ ds : List PCore, 2 * PCore.cnts ds < n → ds.length ≤ 1048576 → nices ds → w_eqCoreS n ds ds = some true)
 | 0 => ⟨fun d h => by omega, fun ds h => by omega⟩
 | n + 1 => by
  have ih := w_eqK_eq n
  refine ⟨fun c h hs => ?_, fun ds h hl hw => ?_⟩
  ·show w_eqCore_b (w_eqCore n) (w_eqCoreS n) c c = _
   unfold w_eqCore_b w_eqIntS
   have hc := PCore.cnt_eq c
   have hc' := (t6 c).1 hs
   rw [if_pos rfl, if_pos rfl, gU (L := w_eqIntS_L1 c.params c.params) c.params hc'.1 (fun go i => rfl), i9, if_pos rfl, eqDatum_eq (z2 hs), i9, if_pos rfl, ih.2 c.kids (by omega) hc'.2.2.1 hc'.2.2.2, i9, if_pos rfl]
  ·show w_eqCoreS_b (w_eqCore n) (w_eqCoreS n) ds ds = _
   unfold w_eqCoreS_b
   exact eqS_refl (L := w_eqCoreS_L1 (w_eqCore n) ds ds) (E := w_eqCore n) ds hl (fun x hx => ih.1 x (by have := PCore.cnts_mem hx; omega) (I8 hw hx)) (fun go i => rfl)
theorem toCore_eq {c : PCore} (h : c.nice) (hc : c.cnt ≤ 1000000000000) : w_toCore RF c = some c := (w_toK_eq RF).1 c (by rw [RF_eq]; omega) h
theorem bM {c : PCore} (h : c.nice) (hc : c.cnt ≤ 1000000000000) : w_eqCore RF c c = some true := (w_eqK_eq RF).1 c (by rw [RF_eq]; omega) h
def mAll {α : Type} (M : Int → α → Int × α) : Int → List α → Int × List α
 | k, [] => (k, [])
 | k, x :: r => ((mAll M (M k x).1 r).1, (M k x).2 :: (mAll M (M k x).1 r).2)
theorem z5 {α : Type} (M : Int → α → Int × α) : ∀ (xs : List α) (k : Int), (mAll M k xs).2.length = xs.length
 | [], _ => rfl
 | x :: r, k => by simp [mAll, z5 M r]
theorem wts_nil {α : Type} (wt : α → Nat) : wts wt ([] : List α) = 0 := rfl
theorem mAll_le {α : Type} {M : Int → α → Int × α} {wt : α → Nat} (hM : ∀ k x, k ≤ (M k x).1 ∧ (M k x).1 ≤ k + 6 * ((1 + wt x : Nat) : Int)) : ∀ (xs : List α) (k : Int), k ≤ (mAll M k xs).1 ∧ (mAll M k xs).1 ≤ k + 6 * ((wts wt xs : Nat) : Int)
 | [], k => by rw [wts_nil]; exact ⟨Int.le_refl _, by show k ≤ _; omega⟩
 | x :: r, k => by
  have h1 := hM k x
  have h2 := mAll_le hM r (M k x).1
  rw [W3]
  unfold mAll
  dsimp only
  omega
theorem set_take {α : Type} {a : List α} {i : Nat} {y : α} (h : i < a.length) : (a.set i y).take (i + 1) = a.take i ++ [y] ∧ (a.set i y).drop (i + 1) = a.drop (i + 1) := by
 rw [List.set_eq_take_append_cons_drop, if_pos h]
 have e : (a.take i).length = i := by rw [List.length_take]; omega
 constructor
 ·rw [List.take_append, e, List.take_of_length_le (by omega)]
  simp
 ·rw [List.drop_append, e, List.drop_of_length_le (by omega)]
  simp
theorem X8 {α : Type} {M : Int → α → Int × α} (wt : α → Nat) (S : α → Prop) (B : Int) {L : (Int × Int × List α → Option (Int × List α)) → Int × Int × List α → Option (Int × List α)}
 (hM : ∀ k x, k ≤ (M k x).1 ∧ (M k x).1 ≤ k + 6 * ((1 + wt x : Nat) : Int))
 (step : ∀ go (i : Nat) k (a : List α) (hi : i < a.length), a.length ≤ 1048576 → S a[i] → 0 ≤ k → k + 6 * ((1 + wt a[i] : Nat) : Int) ≤ B → L go (k, (i : Int), a) = go ((M k a[i]).1, (i : Int) + 1, a.set i (M k a[i]).2))
 (fin : ∀ go k (a : List α), L go (k, (a.length : Int), a) = some (k, a))
 (xs : List α) (hS : ∀ x ∈ xs, S x) (hn : xs.length ≤ 1048576) (k : Int) (h0 : 0 ≤ k) (hB : k + 6 * ((wts wt xs : Nat) : Int) ≤ B) : itr L LF (k, 0, xs) = some (mAll M k xs) := by
 refine (cC (L := L) (fun v => some ((mAll M v.1 (v.2.2.drop v.2.1.toNat)).1, v.2.2.take v.2.1.toNat ++ (mAll M v.1 (v.2.2.drop v.2.1.toNat)).2)) (fun v => (0 ≤ v.2.1 ∧ v.2.1 ≤ v.2.2.length) ∧ v.2.2.length ≤ 1048576 ∧ (∀ x ∈ v.2.2.drop v.2.1.toNat, S x) ∧ 0 ≤ v.1 ∧ v.1 + 6 * ((wts wt (v.2.2.drop v.2.1.toNat) : Nat) : Int) ≤ B) (fun v => v.2.2.length - v.2.1.toNat) (fun go v hv hgo => ?_) (k, 0, xs) ⟨⟨Int.le_refl _, by show (0 : Int) ≤ (xs.length : Int); omega⟩, hn, by simpa using hS, h0, by simpa using hB⟩ (by show xs.length - 0 < _; omega)).trans (by simp)
 obtain ⟨k, j, a⟩ := v
 obtain ⟨⟨h1, h2⟩, h3, h4, h5, h6⟩ := hv
 simp only at h1 h2 h3 h4 h5 h6
 obtain ⟨i, rfl⟩ := Int.eq_ofNat_of_zero_le h1
 simp only [Int.ofNat_eq_natCast, Int.toNat_natCast] at *
 by_cases hi : i < a.length
 ·rw [List.drop_eq_getElem_cons hi] at h4 h6 ⊢
  rw [W3] at h6
  have hm := hM k a[i]
  have hst := set_take (y := (M k a[i]).2) hi
  rw [step go i k a hi h3 (h4 _ List.mem_cons_self) h5 (by omega)]
  refine (hgo ((M k a[i]).1, (i : Int) + 1, a.set i (M k a[i]).2) ⟨⟨by show (0 : Int) ≤ (i : Int) + 1; omega, by show (i : Int) + 1 ≤ ((a.set i _).length : Int); rw [List.length_set]; omega⟩, by show (a.set i _).length ≤ _; rw [List.length_set]; omega, ?_, by show 0 ≤ (M k a[i]).1; omega, ?_⟩ (by show (a.set i _).length - ((i : Int) + 1).toNat < _; rw [List.length_set]; omega)).trans ?_
  ·show ∀ x ∈ (a.set i _).drop ((i : Int) + 1).toNat, S x
   rw [show ((i : Int) + 1).toNat = i + 1 by omega, hst.2]
   exact fun x hx => h4 x (List.mem_cons_of_mem _ hx)
  ·show (M k a[i]).1 + 6 * ((wts wt ((a.set i _).drop ((i : Int) + 1).toNat) : Nat) : Int) ≤ B
   rw [show ((i : Int) + 1).toNat = i + 1 by omega, hst.2]
   omega
  ·show some ((mAll M (M k a[i]).1 ((a.set i _).drop ((i : Int) + 1).toNat)).1, (a.set i _).take ((i : Int) + 1).toNat ++ (mAll M (M k a[i]).1 ((a.set i _).drop ((i : Int) + 1).toNat)).2) = _
   rw [show ((i : Int) + 1).toNat = i + 1 by omega, hst.2, hst.1, List.append_assoc]
   rfl
 ·have : i = a.length := by omega
  subst this
  rw [fin, List.drop_length, List.take_length]
  simp [mAll]
theorem W8 {α : Type} {M : Int → α → Int × α} (wt : α → Nat) (S : α → Prop) (B : Int) (a : List α) {L : (Int × Int → Option Int) → Int × Int → Option Int}
 (hM : ∀ k x, k ≤ (M k x).1 ∧ (M k x).1 ≤ k + 6 * ((1 + wt x : Nat) : Int))
 (step : ∀ go (i : Nat) k (hi : i < a.length) x, a[i] = (M k x).2 → S x → 0 ≤ k → k + 6 * ((1 + wt x : Nat) : Int) ≤ B → L go (k, (i : Int)) = go ((M k x).1, (i : Int) + 1))
 (fin : ∀ go k, L go (k, (a.length : Int)) = some k)
 (xs : List α) (hS : ∀ x ∈ xs, S x) (hn : xs.length ≤ 1048576) (k : Int) (h0 : 0 ≤ k) (hB : k + 6 * ((wts wt xs : Nat) : Int) ≤ B) (ha : a = (mAll M k xs).2) : itr L LF (k, 0) = some (mAll M k xs).1 := by
 have hal : a.length = xs.length := by rw [ha, z5]
 refine cC (L := L) (fun _ => some (mAll M k xs).1) (fun v => (0 ≤ v.2 ∧ v.2 ≤ a.length) ∧ ∃ ys, a.drop v.2.toNat = (mAll M v.1 ys).2 ∧ (mAll M v.1 ys).1 = (mAll M k xs).1 ∧ (∀ x ∈ ys, S x) ∧ 0 ≤ v.1 ∧ v.1 + 6 * ((wts wt ys : Nat) : Int) ≤ B) (fun v => a.length - v.2.toNat) (fun go v hv hgo => ?_) (k, 0) ⟨⟨Int.le_refl _, by show (0 : Int) ≤ (a.length : Int); omega⟩, xs, by simpa using ha, rfl, hS, h0, hB⟩ (by show a.length - 0 < _; omega)
 obtain ⟨k1, j⟩ := v
 obtain ⟨⟨h1, h2⟩, ys, g1, g2, g3, g4, g5⟩ := hv
 simp only at h1 h2 g1 g2 g3 g4 g5
 obtain ⟨i, rfl⟩ := Int.eq_ofNat_of_zero_le h1
 simp only [Int.ofNat_eq_natCast, Int.toNat_natCast] at *
 by_cases hi : i < a.length
 ·rw [List.drop_eq_getElem_cons hi] at g1
  cases ys with
  | nil => simp [mAll] at g1; omega
  | cons y r =>
   have g2 : (mAll M (M k1 y).1 r).1 = (mAll M k xs).1 := g2
   have g1 : a[i] :: a.drop (i + 1) = (M k1 y).2 :: (mAll M (M k1 y).1 r).2 := g1
   simp only [List.cons.injEq] at g1
   rw [W3] at g5
   have hm := hM k1 y
   rw [step go i k1 hi y g1.1 (g3 y (by simp)) g4 (by omega)]
   exact hgo ((M k1 y).1, (i : Int) + 1) ⟨⟨by show (0 : Int) ≤ (i : Int) + 1; omega, by show (i : Int) + 1 ≤ _; omega⟩, r, by show a.drop ((i : Int) + 1).toNat = _; rw [show ((i : Int) + 1).toNat = i + 1 by omega]; exact g1.2, g2, fun x hx => g3 x (by simp [hx]), by show 0 ≤ (M k1 y).1; omega, by show (M k1 y).1 + _ ≤ _; omega⟩ (by show a.length - ((i : Int) + 1).toNat < a.length - i; omega)
 ·have : i = a.length := by omega
  subst this
  rw [fin]
  rw [List.drop_length] at g1
  cases ys with
  | nil => rw [← g2]; rfl
  | cons y r => simp [mAll] at g1
def mI (k : Int) (_ : Int) : Int × Int := (k + 1, k)
theorem mI_le (k x : Int) : k ≤ (mI k x).1 ∧ (mI k x).1 ≤ k + 6 * ((1 + 0 : Nat) : Int) := by unfold mI; dsimp only; omega
theorem wts_0 {α : Type} (xs : List α) : wts (fun _ => 0) xs = xs.length := by
 induction xs with
 | nil => rfl
 | cons x r ih => rw [W3, ih]; simp; omega
theorem R4 (xs : List Int) (k : Int) (hn : xs.length ≤ 1048576) (h0 : 0 ≤ k) (h1 : k + 6 * (xs.length : Int) ≤ 1000000000000) : w_markIntS xs k = some (mAll mI k xs) := by
 unfold w_markIntS
 refine X8 (L := w_markIntS_L1) (fun _ => 0) (fun _ => True) 1000000000000 (fun k x => mI_le k x) (fun go i k a hi ha _ h0 h1 => ?_) (fun go k a => ?_) xs (fun _ _ => trivial) hn k h0 (by rw [wts_0]; exact h1)
 ·show w_markIntS_L1b go k i a = _
  unfold w_markIntS_L1b
  rw [if_pos (by omega), r8 hi, i9, o3 (by omega), o3 (by omega), Int.toNat_natCast]; rfl
 ·show w_markIntS_L1b go k _ a = _
  unfold w_markIntS_L1b
  rw [if_neg (by omega)]
theorem bQ (xs : List Int) (k : Int) (hn : xs.length ≤ 1048576) (h0 : 0 ≤ k) (h1 : k + 6 * (xs.length : Int) ≤ 1000000000000) : w_heldIntS (mAll mI k xs).2 k = some (mAll mI k xs).1 := by
 unfold w_heldIntS
 have hal : (mAll mI k xs).2.length = xs.length := z5 _ _ _
 refine W8 (L := w_heldIntS_L1 (mAll mI k xs).2) (fun _ => 0) (fun _ => True) 1000000000000 (mAll mI k xs).2 (fun k x => mI_le k x) (fun go i k1 hi x hx _ h0 h1 => ?_) (fun go k1 => ?_) xs (fun _ _ => trivial) hn k h0 (by rw [wts_0]; exact h1) rfl
 ·show w_heldIntS_L1b _ go k1 i = _
  unfold w_heldIntS_L1b
  rw [if_pos (by omega), r8 hi, i9, hx, if_pos (show (mI k1 x).2 = k1 from rfl), o3 (by omega), o3 (by omega)]; rfl
 ·show w_heldIntS_L1b _ go k1 _ = _
  unfold w_heldIntS_L1b
  rw [if_neg (by omega)]
def mtx (k : Int) : List UInt8 := (w_markText k).getD []
theorem M1 {k : Int} (h : k ≤ 4611686018427387904) : w_markText k = some (mtx k) := by
 obtain ⟨t, ht⟩ := U9 k h
 unfold mtx; rw [ht]; rfl
mutual
def mD : Int → PDat → Int × PDat
 | k, .mk _ _ _ is => ((mDs (k + 1 + 1 + 1) is).1, .mk k (k + 1) (mtx (k + 1 + 1)) (mDs (k + 1 + 1 + 1) is).2)
def mDs : Int → List PDat → Int × List PDat
 | k, [] => (k, [])
 | k, d :: r => ((mDs (mD k d).1 r).1, (mD k d).2 :: (mDs (mD k d).1 r).2)
end
theorem mDs_eq : ∀ (ds : List PDat) (k : Int), mDs k ds = mAll mD k ds
 | [], _ => by unfold mDs mAll; rfl
 | d :: r, k => by unfold mDs mAll; rw [mDs_eq r]
theorem mD_eq (k : Int) (d : PDat) : mD k d = ((mAll mD (k + 1 + 1 + 1) d.items).1, .mk k (k + 1) (mtx (k + 1 + 1)) (mAll mD (k + 1 + 1 + 1) d.items).2) := by
 cases d; unfold mD; rw [mDs_eq]; rfl
theorem mD_le : (∀ d : PDat, ∀ k, k ≤ (mD k d).1 ∧ (mD k d).1 ≤ k + 6 * ((1 + wD d : Nat) : Int)) ∧ ∀ ds : List PDat, ∀ k, k ≤ (mAll mD k ds).1 ∧ (mAll mD k ds).1 ≤ k + 6 * ((wDs ds : Nat) : Int) := by
 refine PDat.ind (fun ds h k => ?_) (fun d h k => ?_)
 ·induction ds generalizing k with
  | nil => exact ⟨Int.le_refl _, by show k ≤ _; omega⟩
  | cons x r ih =>
   have h1 := h x (by simp) k
   have h2 := ih (fun y hy => h y (by simp [hy])) (mD k x).1
   unfold wDs mAll
   dsimp only
   omega
 ·have h1 := h (k + 1 + 1 + 1)
  have h2 := aL d
  rw [mD_eq]
  dsimp only
  omega
theorem M0 : ∀ (n : Nat) (ds : List PDat) (k : Int), PDat.cnts ds < n → wDs ds ≤ 1048576 → 0 ≤ k → k + 6 * ((wDs ds : Nat) : Int) ≤ 1000000000000 → w_markDatumS n ds k = some (mAll mD k ds)
 | 0, ds, k, h, _, _, _ => by omega
 | n + 1, ds, k, h, hc, h0, h1 => by
  show w_markDatumS_b (w_markDatumS n) ds k = _
  unfold w_markDatumS_b
  have hl := PDat.cnts_len ds
  have hw := Z1.2 ds
  refine X8 (L := w_markDatumS_L1 (w_markDatumS n)) wD (fun x => wD x ≤ 1048576 ∧ x.cnt < n) 1000000000000 (fun k x => mD_le.1 x k) (fun go i k1 a hi ha hx hk hB => ?_) (fun go k1 a => ?_) ds (fun x hx => ⟨by have := gG hx; omega, by have := PDat.cnts_mem hx; omega⟩) (by omega) k h0 (by rw [← jC]; exact h1)
  ·show w_markDatumS_L1b (w_markDatumS n) go k1 (i : Int) a = _
   unfold w_markDatumS_L1b
   have hwi := aL a[i]
   have hci := PDat.cnt_eq a[i]
   simp only [Int.toNat_natCast, List.set_set]
   rw [if_pos (by omega), r8 hi, i9, o3 (by omega), E9 hi, i9, o3 (by omega), M1 (by omega), i9, E9 hi, i9, o3 (by omega), E9 hi, i9]
   try simp only [V1, fN, V2, fO]
   rw [M0 n a[i].items (k1 + 1 + 1 + 1) (by omega) (by omega) (by omega) (by omega), i9]
   refine (o3 (z5 mD a[i].items _)).trans ((o3 (by omega)).trans ?_)
   rw [mD_eq]
  ·show w_markDatumS_L1b (w_markDatumS n) go k1 _ a = _
   unfold w_markDatumS_L1b
   rw [if_neg (by omega)]
theorem L5 : ∀ (n : Nat) (ds : List PDat) (k : Int), PDat.cnts ds < n → wDs ds ≤ 1048576 → 0 ≤ k → k + 6 * ((wDs ds : Nat) : Int) ≤ 1000000000000 → w_heldDatumS n (mAll mD k ds).2 k = some (mAll mD k ds).1
 | 0, ds, k, h, _, _, _ => by omega
 | n + 1, ds, k, h, hc, h0, h1 => by
  show w_heldDatumS_b (w_heldDatumS n) (mAll mD k ds).2 k = _
  unfold w_heldDatumS_b
  have hl := PDat.cnts_len ds
  have hw := Z1.2 ds
  have hal : (mAll mD k ds).2.length = ds.length := z5 _ _ _
  refine W8 (L := w_heldDatumS_L1 (w_heldDatumS n) (mAll mD k ds).2) wD (fun x => wD x ≤ 1048576 ∧ x.cnt < n) 1000000000000 (mAll mD k ds).2 (fun k x => mD_le.1 x k) (fun go i k1 hi x hx hS hk hB => ?_) (fun go k1 => ?_) ds (fun x hx => ⟨by have := gG hx; omega, by have := PDat.cnts_mem hx; omega⟩) (by omega) k h0 (by rw [← jC]; exact h1) rfl
  ·show w_heldDatumS_L1b (w_heldDatumS n) (mAll mD k ds).2 go k1 (i : Int) = _
   unfold w_heldDatumS_L1b
   have hwi := aL x
   have hci := PDat.cnt_eq x
   have hle := mD_le.2 x.items (k1 + 1 + 1 + 1)
   rw [mD_eq] at hx
   rw [if_pos (by omega), r8 hi, hx]
   simp only [i9, V1, fN, V2, fO]
   rw [if_pos trivial, o3 (by omega), if_pos trivial, o3 (by omega), M1 (by omega), i9]
   refine (if_pos rfl).trans ?_
   rw [o3 (by omega), L5 n x.items (k1 + 1 + 1 + 1) (by omega) (by omega) (by omega) (by omega), i9, if_neg (by omega), o3 (by omega), mD_eq]
  ·show w_heldDatumS_L1b (w_heldDatumS n) (mAll mD k ds).2 go k1 _ = _
   unfold w_heldDatumS_L1b
   rw [if_neg (by omega)]
theorem kK (k n : Int) (p : List Int) (d : PDat) (ks : List PCore) : (PCore.mk k n p d ks).kind = k ∧ (PCore.mk k n p d ks).number = n ∧ (PCore.mk k n p d ks).params = p ∧ (PCore.mk k n p d ks).datum = d ∧ (PCore.mk k n p d ks).kids = ks := ⟨rfl, rfl, rfl, rfl, rfl⟩
mutual
def mK : Int → PCore → Int × PCore
 | k, .mk _ _ p d ks => ((mKs (mAll mD ((mAll mI (k + 1 + 1) p).1 + 1 + 1 + 1) d.items).1 ks).1, .mk k (k + 1) (mAll mI (k + 1 + 1) p).2 (.mk (mAll mI (k + 1 + 1) p).1 ((mAll mI (k + 1 + 1) p).1 + 1) (mtx ((mAll mI (k + 1 + 1) p).1 + 1 + 1)) (mAll mD ((mAll mI (k + 1 + 1) p).1 + 1 + 1 + 1) d.items).2) (mKs (mAll mD ((mAll mI (k + 1 + 1) p).1 + 1 + 1 + 1) d.items).1 ks).2)
def mKs : Int → List PCore → Int × List PCore
 | k, [] => (k, [])
 | k, d :: r => ((mKs (mK k d).1 r).1, (mK k d).2 :: (mKs (mK k d).1 r).2)
end
theorem mKs_eq : ∀ (ds : List PCore) (k : Int), mKs k ds = mAll mK k ds
 | [], _ => by unfold mKs mAll; rfl
 | d :: r, k => by unfold mKs mAll; rw [mKs_eq r]
def mP (k : Int) (c : PCore) := mAll mI k c.params
def mQ (k : Int) (c : PCore) := mAll mD k c.datum.items
theorem mK_eq (k : Int) (c : PCore) : mK k c = ((mAll mK (mQ ((mP (k + 1 + 1) c).1 + 1 + 1 + 1) c).1 c.kids).1, .mk k (k + 1) (mP (k + 1 + 1) c).2 (.mk (mP (k + 1 + 1) c).1 ((mP (k + 1 + 1) c).1 + 1) (mtx ((mP (k + 1 + 1) c).1 + 1 + 1)) (mQ ((mP (k + 1 + 1) c).1 + 1 + 1 + 1) c).2) (mAll mK (mQ ((mP (k + 1 + 1) c).1 + 1 + 1 + 1) c).1 c.kids).2) := by
 cases c; unfold mK; rw [mKs_eq]; rfl
theorem mP_le (k : Int) (c : PCore) : k ≤ (mP k c).1 ∧ (mP k c).1 ≤ k + 6 * (c.params.length : Int) := by
 have := mAll_le (wt := fun _ => 0) (fun k x => mI_le k x) c.params k
 rw [wts_0] at this; exact this
theorem mQ_le (k : Int) (c : PCore) : k ≤ (mQ k c).1 ∧ (mQ k c).1 ≤ k + 6 * (wD c.datum : Int) := by
 have h1 := mD_le.2 c.datum.items k
 have h2 := aL c.datum
 exact ⟨h1.1, by show (mAll mD k c.datum.items).1 ≤ _; omega⟩
theorem mK_le : (∀ d : PCore, ∀ k, k ≤ (mK k d).1 ∧ (mK k d).1 ≤ k + 6 * ((1 + wK d : Nat) : Int)) ∧ ∀ ds : List PCore, ∀ k, k ≤ (mAll mK k ds).1 ∧ (mAll mK k ds).1 ≤ k + 6 * ((wKs ds : Nat) : Int) := by
 refine PCore.ind (fun ds h k => ?_) (fun d h k => ?_)
 ·induction ds generalizing k with
  | nil => exact ⟨Int.le_refl _, by show k ≤ _; omega⟩
  | cons x r ih =>
   have h1 := h x (by simp) k
   have h2 := ih (fun y hy => h y (by simp [hy])) (mK k x).1
   unfold wKs mAll
   dsimp only
   omega
 ·have h1 := mP_le (k + 1 + 1) d
  have h2 := mQ_le ((mP (k + 1 + 1) d).1 + 1 + 1 + 1) d
  have h3 := h (mQ ((mP (k + 1 + 1) d).1 + 1 + 1 + 1) d).1
  have h4 := G9 d
  rw [mK_eq]
  dsimp only
  omega
theorem nth_set' {α : Type} {l : List α} {i : Nat} {v : α} (h : i < l.length) : nth (l.set i v) (i : Int) = some v := E9 h
theorem Z8 : ∀ (n : Nat) (ds : List PCore) (k : Int), PCore.cnts ds < n → nices ds → ds.length ≤ 1048576 → 0 ≤ k → k + 6 * ((wKs ds : Nat) : Int) ≤ 1000000000000 → w_markCoreS n ds k = some (mAll mK k ds)
 | 0, ds, k, h, _, _, _, _ => by omega
 | n + 1, ds, k, h, hc, hl, h0, h1 => by
  show w_markCoreS_b (w_markCoreS n) ds k = _
  unfold w_markCoreS_b
  refine X8 (L := w_markCoreS_L1 (w_markCoreS n)) wK (fun x => x.nice ∧ x.cnt < n) 1000000000000 (fun k x => mK_le.1 x k) (fun go i k1 a hi ha hx hk hB => ?_) (fun go k1 a => ?_) ds (fun x hx => ⟨I8 hc hx, by have := PCore.cnts_mem hx; omega⟩) hl k h0 (by rw [← wKs_eq]; exact h1)
  ·show w_markCoreS_L1b (w_markCoreS n) go k1 (i : Int) a = _
   unfold w_markCoreS_L1b
   have hwi := G9 a[i]
   have hci := PCore.cnt_eq a[i]
   have hn := (t6 a[i]).1 hx.1
   have hwd := aL a[i].datum
   have hp := mP_le (k1 + 1 + 1) a[i]
   have hq := mQ_le ((mP (k1 + 1 + 1) a[i]).1 + 1 + 1 + 1) a[i]
   have hcw := Z1.2 a[i].datum.items
   have e1 : w_markIntS a[i].params (k1 + 1 + 1) = some (mP (k1 + 1 + 1) a[i]) := R4 _ _ hn.1 (by omega) (by omega)
   have e2 : w_markDatumS RF a[i].datum.items ((mP (k1 + 1 + 1) a[i]).1 + 1 + 1 + 1) = some (mQ ((mP (k1 + 1 + 1) a[i]).1 + 1 + 1 + 1) a[i]) := M0 RF _ _ (by rw [RF_eq]; omega) (by omega) (by omega) (by omega)
   have e3 := Z8 n a[i].kids (mQ ((mP (k1 + 1 + 1) a[i]).1 + 1 + 1 + 1) a[i]).1 (by omega) hn.2.2.2 hn.2.2.1 (by omega) (by omega)
   simp only [Int.toNat_natCast, List.set_set]
   rw [if_pos (by omega), r8 hi, i9, o3 (by omega), E9 hi, i9, o3 (by omega), E9 hi, i9]
   refine (congrArg (bnd · _) e1).trans ?_
   rw [i9]
   refine (o3 (z5 mI a[i].params _)).trans ?_
   rw [E9 hi, i9, o3 (by omega), E9 hi, i9, o3 (by omega), M1 (by omega), i9, E9 hi, i9, o3 (by omega), E9 hi, i9]
   refine (congrArg (bnd · _) e2).trans ?_
   rw [i9]
   refine (o3 (z5 mD a[i].datum.items _)).trans ?_
   rw [E9 hi, i9]
   refine (congrArg (bnd · _) e3).trans ?_
   rw [i9]
   refine (o3 (z5 mK a[i].kids _)).trans ((o3 (by omega)).trans ?_)
   rw [mK_eq]; rfl
  ·show w_markCoreS_L1b (w_markCoreS n) go k1 _ a = _
   unfold w_markCoreS_L1b
   rw [if_neg (by omega)]
theorem Z4 : ∀ (n : Nat) (ds : List PCore) (k : Int), PCore.cnts ds < n → nices ds → ds.length ≤ 1048576 → 0 ≤ k → k + 6 * ((wKs ds : Nat) : Int) ≤ 1000000000000 → w_heldCoreS n (mAll mK k ds).2 k = some (mAll mK k ds).1
 | 0, ds, k, h, _, _, _, _ => by omega
 | n + 1, ds, k, h, hc, hl, h0, h1 => by
  show w_heldCoreS_b (w_heldCoreS n) (mAll mK k ds).2 k = _
  unfold w_heldCoreS_b
  have hal : (mAll mK k ds).2.length = ds.length := z5 _ _ _
  refine W8 (L := w_heldCoreS_L1 (w_heldCoreS n) (mAll mK k ds).2) wK (fun x => x.nice ∧ x.cnt < n) 1000000000000 (mAll mK k ds).2 (fun k x => mK_le.1 x k) (fun go i k1 hi x hx hS hk hB => ?_) (fun go k1 => ?_) ds (fun x hx => ⟨I8 hc hx, by have := PCore.cnts_mem hx; omega⟩) hl k h0 (by rw [← wKs_eq]; exact h1) rfl
  ·show w_heldCoreS_L1b (w_heldCoreS n) (mAll mK k ds).2 go k1 (i : Int) = _
   unfold w_heldCoreS_L1b
   have hwi := G9 x
   have hci := PCore.cnt_eq x
   have hn := (t6 x).1 hS.1
   have hwd := aL x.datum
   have hp := mP_le (k1 + 1 + 1) x
   have hq := mQ_le ((mP (k1 + 1 + 1) x).1 + 1 + 1 + 1) x
   have hcw := Z1.2 x.datum.items
   have hk3 := mK_le.2 x.kids (mQ ((mP (k1 + 1 + 1) x).1 + 1 + 1 + 1) x).1
   have e1 : w_heldIntS (mP (k1 + 1 + 1) x).2 (k1 + 1 + 1) = some (mP (k1 + 1 + 1) x).1 := bQ _ _ hn.1 (by omega) (by omega)
   have e2 : w_heldDatumS RF (mQ ((mP (k1 + 1 + 1) x).1 + 1 + 1 + 1) x).2 ((mP (k1 + 1 + 1) x).1 + 1 + 1 + 1) = some (mQ ((mP (k1 + 1 + 1) x).1 + 1 + 1 + 1) x).1 := L5 RF _ _ (by rw [RF_eq]; omega) (by omega) (by omega) (by omega)
   have e3 := Z4 n x.kids (mQ ((mP (k1 + 1 + 1) x).1 + 1 + 1 + 1) x).1 (by omega) hn.2.2.2 hn.2.2.1 (by omega) (by omega)
   rw [mK_eq] at hx
   rw [if_pos (by omega), r8 hi, hx]
   simp only [i9, kK, V1, fN, V2, fO]
   rw [if_pos trivial, o3 (by omega), if_pos trivial, o3 (by omega), e1, i9, if_neg (by omega), if_pos rfl, o3 (by omega), if_pos rfl, o3 (by omega), M1 (by omega), i9]
   refine (if_pos rfl).trans ?_
   rw [o3 (by omega), e2, i9, if_neg (by omega), e3, i9, if_neg (by omega), o3 (by omega), mK_eq]
  ·show w_heldCoreS_L1b (w_heldCoreS n) (mAll mK k ds).2 go k1 _ = _
   unfold w_heldCoreS_L1b
   rw [if_neg (by omega)]
theorem iF (d : PDat) (k : Int) (h : wD d ≤ 1048576) (h0 : 0 ≤ k) (h1 : k + 6 * (wD d : Int) ≤ 1000000000000) : w_markDatum d k = some (mAll mD k d.items) := by
 unfold w_markDatum
 have hwd := aL d
 have hcw := Z1.2 d.items
 rw [M0 RF _ _ (by rw [RF_eq]; omega) (by omega) h0 (by omega), i9]
 exact o3 (z5 mD d.items _)
theorem hC (k n : Int) (t : List UInt8) (is : List PDat) (k1 : Int) (h : wDs is ≤ 1048576) (h0 : 0 ≤ k1) (h1 : k1 + 6 * (wDs is : Int) ≤ 1000000000000) : w_heldDatum (PDat.mk k n t (mAll mD k1 is).2) k1 = some (mAll mD k1 is).1 := by
 unfold w_heldDatum
 have hcw := Z1.2 is
 have hle := mD_le.2 is k1
 rw [V1, L5 RF _ _ (by rw [RF_eq]; omega) (by omega) h0 (by omega), i9, if_neg (by omega)]
def mR (k : Int) (c : PCore) := mAll mK k c.kids
theorem mR_le (k : Int) (c : PCore) : k ≤ (mR k c).1 ∧ (mR k c).1 ≤ k + 6 * (wKs c.kids : Int) := mK_le.2 c.kids k
def endK (k : Int) (c : PCore) : Int := (mR (mQ (mP k c).1 c).1 c).1
theorem endK_le (k : Int) (c : PCore) : k ≤ endK k c ∧ endK k c ≤ k + 6 * (wK c : Int) := by
 have h1 := mP_le k c
 have h2 := mQ_le (mP k c).1 c
 have h3 := mR_le (mQ (mP k c).1 c).1 c
 have h4 := G9 c
 unfold endK; omega
theorem cH (c : PCore) (k : Int) (hc : c.nice) (hcc : c.cnt ≤ 1000000000000) (h0 : 0 ≤ k) (h1 : k + 6 * (wK c : Int) ≤ 1000000000000) : w_markCore c k = some (endK k c, (mP k c).2, (mQ (mP k c).1 c).2, (mR (mQ (mP k c).1 c).1 c).2) := by
 unfold w_markCore
 have hn := (t6 c).1 hc
 have hp := mP_le k c
 have hq := mQ_le (mP k c).1 c
 have hr := mR_le (mQ (mP k c).1 c).1 c
 have hw := G9 c
 have hci := PCore.cnt_eq c
 refine (congrArg (bnd · _) (R4 _ _ hn.1 h0 (by omega))).trans ?_
 rw [i9]
 refine (o3 (z5 mI c.params _)).trans ?_
 refine (congrArg (bnd · _) (iF c.datum (mP k c).1 hn.2.1 (by omega) (by omega))).trans ?_
 rw [i9]
 refine (o3 (z5 mD c.datum.items _)).trans ?_
 refine (congrArg (bnd · _) (Z8 RF c.kids (mQ (mP k c).1 c).1 (by rw [RF_eq]; omega) hn.2.2.2 hn.2.2.1 (by omega) (by omega))).trans ?_
 rw [i9]
 exact o3 (z5 mK c.kids _)
theorem heldCore_eq (kd n dk dn : Int) (dt : List UInt8) (c : PCore) (k : Int) (hc : c.nice) (hcc : c.cnt ≤ 1000000000000) (h0 : 0 ≤ k) (h1 : k + 6 * (wK c : Int) ≤ 1000000000000) : w_heldCore (PCore.mk kd n (mP k c).2 (PDat.mk dk dn dt (mQ (mP k c).1 c).2) (mR (mQ (mP k c).1 c).1 c).2) k = some (endK k c) := by
 unfold w_heldCore
 have hn := (t6 c).1 hc
 have hp := mP_le k c
 have hq := mQ_le (mP k c).1 c
 have hr := mR_le (mQ (mP k c).1 c).1 c
 have hw := G9 c
 have hwd := aL c.datum
 have hci := PCore.cnt_eq c
 simp only [kK]
 refine (congrArg (bnd · _) (bQ c.params k hn.1 h0 (by omega))).trans ?_
 rw [i9]
 refine (if_neg (by show ¬ (mP k c).1 < 0; omega)).trans ?_
 refine (congrArg (bnd · _) (hC dk dn dt c.datum.items (mP k c).1 (by omega) (by omega) (by omega))).trans ?_
 rw [i9]
 refine (if_neg (by show ¬ (mQ (mP k c).1 c).1 < 0; omega)).trans ?_
 refine (congrArg (bnd · _) (Z4 RF c.kids (mQ (mP k c).1 c).1 (by rw [RF_eq]; omega) hn.2.2.2 hn.2.2.1 (by omega) (by omega))).trans ?_
 rw [i9]
 exact if_neg (by show ¬ (mR (mQ (mP k c).1 c).1 c).1 < 0; omega)
theorem mP_len (k : Int) (c : PCore) : (mP k c).2.length = c.params.length := z5 _ _ _
theorem mQ_len (k : Int) (c : PCore) : (mQ k c).2.length = c.datum.items.length := z5 _ _ _
theorem mR_len (k : Int) (c : PCore) : (mR k c).2.length = c.kids.length := z5 _ _ _
end Go.Abs

namespace Go.Abs
open PCore
theorem fG (l : List Int) (h : l.length ≤ 1048576) : i_copyInts l = some l := by unfold i_copyInts; rw [o3 (by omega)]
theorem dA : ∀ (n : Nat) (d : PDat), d.cnt < n → d.small → s_l1Copy n d = some d
 | 0, d, h, _ => by omega
 | n + 1, d, h, hd => by
  show s_l1Copy_b (s_l1Copy n) d = _
  unfold s_l1Copy_b
  have hs := G8 hd
  rw [P7 (L := s_l1Copy_L1 (s_l1Copy n) d) id (fun o => some (PDat.mk d.kind d.number d.text o)) d.items hs (fun go i o hi ho => ?_) (fun go o => ?_)]
  ·rw [List.map_id]; cases d; rfl
  ·show s_l1Copy_L1b (s_l1Copy n) d go i o = _
   unfold s_l1Copy_L1b
   rw [if_pos (by omega), r8 hi, i9, dA n _ (by have := (v7 hd hi).2; omega) (v7 hd hi).1, i9, o3 (by simp; omega), o3 (by omega)]; rfl
  ·show s_l1Copy_L1b (s_l1Copy n) d go _ o = _
   unfold s_l1Copy_L1b
   rw [if_neg (by omega)]
theorem Q4 : ∀ (n : Nat), (∀ d : PDat, 2 * d.cnt + 1 < n → d.small → i_copyDatum n d = some d) ∧ (∀ ds : List PDat, 2 * PDat.cnts ds < n → ds.length ≤ 1048576 → (∀ x ∈ ds, x.small) → i_copyData n ds = some ds)
 | 0 => ⟨fun d h => by omega, fun ds h => by omega⟩
 | n + 1 => by
  have ih := Q4 n
  refine ⟨fun d h hs => ?_, fun ds h hl hw => ?_⟩
  ·show i_copyDatum_b (i_copyDatum n) (i_copyData n) d = _
   unfold i_copyDatum_b
   have hc := PDat.cnt_eq d
   rw [ih.2 d.items (by omega) (G8 hs) (fun x hx => PDat.small_item hs hx), i9]
   cases d; rfl
  ·show i_copyData_b (i_copyDatum n) (i_copyData n) ds = _
   unfold i_copyData_b
   rw [P7 (L := i_copyData_L1 (i_copyDatum n) ds) id some ds hl (fun go i o hi ho => ?_) (fun go o => ?_)]
   ·rw [List.map_id]
   ·show i_copyData_L1b (i_copyDatum n) ds go i o = _
    unfold i_copyData_L1b
    rw [if_pos (by omega), r8 hi, i9, ih.1 _ (by have := PDat.cnts_mem (List.getElem_mem hi); omega) (hw _ (List.getElem_mem hi)), i9, o3 (by simp; omega), o3 (by omega)]; rfl
   ·show i_copyData_L1b (i_copyDatum n) ds go _ o = _
    unfold i_copyData_L1b
    rw [if_neg (by omega)]
theorem A4 : ∀ (n : Nat) (c : PCore), c.cnt < n → c.nice → i_copyCore n c = some c
 | 0, d, h, _ => by omega
 | n + 1, c, h, hc => by
  show i_copyCore_b (i_copyCore n) c = _
  unfold i_copyCore_b
  have hc' := (t6 c).1 hc
  rw [fG _ hc'.1, i9, (Q4 RF).1 _ (Y1 (z2 hc)) (z2 hc), i9]
  rw [P7 (L := i_copyCore_L1 (i_copyCore n) c c.params c.datum) id (fun o => some (PCore.mk c.kind c.number c.params c.datum o)) c.kids hc'.2.2.1 (fun go i o hi ho => ?_) (fun go o => ?_)]
  ·rw [List.map_id]; cases c; rfl
  ·show i_copyCore_L1b (i_copyCore n) c c.params c.datum go i o = _
   unfold i_copyCore_L1b
   rw [if_pos (by omega), r8 hi, i9, A4 n _ (by have := B1 hi; omega) (s8 hc (List.getElem_mem hi)), i9, o3 (by simp; omega), o3 (by omega)]; rfl
  ·show i_copyCore_L1b (i_copyCore n) c c.params c.datum go _ o = _
   unfold i_copyCore_L1b
   rw [if_neg (by omega)]
theorem D9 : ∀ (n : Nat) (c : PCore), c.cnt < n → c.nice → s_l5Copy n c = some c
 | 0, d, h, _ => by omega
 | n + 1, c, h, hc => by
  show s_l5Copy_b (s_l5Copy n) c = _
  unfold s_l5Copy_b
  have hc' := (t6 c).1 hc
  rw [M8 _ (by omega), i9, dA RF _ (RF_cnt (z2 hc)) (z2 hc), i9]
  rw [P7 (L := s_l5Copy_L1 (s_l5Copy n) c c.params c.datum) id (fun o => some (PCore.mk c.kind c.number c.params c.datum o)) c.kids hc'.2.2.1 (fun go i o hi ho => ?_) (fun go o => ?_)]
  ·rw [List.map_id]; cases c; rfl
  ·show s_l5Copy_L1b (s_l5Copy n) c c.params c.datum go i o = _
   unfold s_l5Copy_L1b
   rw [if_pos (by omega), r8 hi, i9, D9 n _ (by have := B1 hi; omega) (s8 hc (List.getElem_mem hi)), i9, o3 (by simp; omega), o3 (by omega)]; rfl
  ·show s_l5Copy_L1b (s_l5Copy n) c c.params c.datum go _ o = _
   unfold s_l5Copy_L1b
   rw [if_neg (by omega)]
theorem M9 (x : Int) (s : PCore) (hs : s.nice) (hsc : s.cnt ≤ 1048576) : ∀ (n : Nat) (c : PCore), c.cnt < n → c.nice → i_substituted n c x s = some (subst x s c)
 | 0, d, h, _ => by omega
 | n + 1, c, h, hc => by
  show i_substituted_b (i_substituted n) c x s = _
  unfold i_substituted_b i_substituted_J1
  have hc' := (t6 c).1 hc
  have e : (if c.kind = 2 then (if decide (c.number = x) = true then bnd (i_copyCore RF s) fun x6 => some x6 else bnd (i_copyCore RF (PCore.mk c.kind c.number c.params c.datum [])) fun x6 => itr (i_substituted_L2 (i_substituted n) c x s x6) LF (0, x6.kids)) else if false = true then bnd (i_copyCore RF s) fun x6 => some x6 else bnd (i_copyCore RF (PCore.mk c.kind c.number c.params c.datum [])) fun x6 => itr (i_substituted_L2 (i_substituted n) c x s x6) LF (0, x6.kids)) = if c.kind = 2 ∧ c.number = x then bnd (i_copyCore RF s) fun x6 => some x6 else bnd (i_copyCore RF (PCore.mk c.kind c.number c.params c.datum [])) fun x6 => itr (i_substituted_L2 (i_substituted n) c x s x6) LF (0, x6.kids) := by
   by_cases h1 : c.kind = 2 <;> by_cases h2 : c.number = x <;> simp [h1, h2]
  refine e.trans ?_
  have e2 : i_copyCore RF (PCore.mk c.kind c.number c.params c.datum []) = some (PCore.mk c.kind c.number c.params c.datum []) := A4 RF _ (by rw [RF_eq]; show 0 < _; omega) ((t6 _).2 ⟨hc'.1, hc'.2.1, by show 0 ≤ _; omega, trivial⟩)
  rw [W2, A4 RF s (RF_cntK (by omega)) hs, e2, i9, i9]
  split
  ·rfl
  ·show itr (i_substituted_L2 (i_substituted n) c x s (PCore.mk c.kind c.number c.params c.datum [])) LF (0, []) = _
   rw [P7 (L := i_substituted_L2 (i_substituted n) c x s (PCore.mk c.kind c.number c.params c.datum [])) (subst x s) (fun o => some (PCore.mk c.kind c.number c.params c.datum o)) c.kids hc'.2.2.1 (fun go i o hi ho => ?_) (fun go o => ?_)]
   ·show i_substituted_L2b (i_substituted n) c x s _ go i o = _
    unfold i_substituted_L2b
    rw [if_pos (by omega), r8 hi, i9, M9 x s hs hsc n _ (by have := B1 hi; omega) (s8 hc (List.getElem_mem hi)), i9, o3 (by simp; omega), o3 (by omega)]
   ·show i_substituted_L2b (i_substituted n) c x s _ go _ o = _
    unfold i_substituted_L2b
    rw [if_neg (by omega)]; rfl
theorem set_map {α : Type} {xs : List α} {f : α → α} {i : Nat} (h : i < xs.length) : ((xs.take i).map f ++ xs.drop i).set i (f xs[i]) = (xs.take (i + 1)).map f ++ xs.drop (i + 1) := by
 rw [List.set_append_right _ _ (by simp; omega)]
 have e2 : i - ((xs.take i).map f).length = 0 := by simp; omega
 rw [e2, List.drop_eq_getElem_cons h, List.set_cons_zero, List.take_add_one, List.map_append, List.append_assoc]
 simp [List.getElem?_eq_getElem h]
theorem K6 (x : Int) (s : PCore) (hs : s.nice) (hsc : s.cnt ≤ 1048576) : ∀ (n : Nat) (c : PCore), c.cnt < n → c.nice → c.cnt ≤ 1048576 → s_l9Substitute n c x s = some (subst x s c)
 | 0, d, h, _, _ => by omega
 | n + 1, c, h, hc, hcc => by
  show s_l9Substitute_b (s_l9Substitute n) c x s = _
  unfold s_l9Substitute_b s_l9Substitute_J1
  have hc' := (t6 c).1 hc
  rw [W2, D9 RF s (RF_cntK (by omega)) hs, D9 RF c (RF_cntK (by omega)) hc, i9, i9]
  have hl : itr (s_l9Substitute_L2 (s_l9Substitute n) c x s c) LF (0, c.kids) = some (PCore.mk c.kind c.number c.params c.datum (c.kids.map (subst x s))) := by
   rw [y9 (L := s_l9Substitute_L2 (s_l9Substitute n) c x s c) c.kids.length (fun i o => o = (c.kids.take i).map (subst x s) ++ c.kids.drop i) (fun _ _ => some (PCore.mk c.kind c.number c.params c.datum (c.kids.map (subst x s)))) (by omega) (fun go i o hi ho hgo => ?_) (fun go o ho => ?_) (by simp)]
   ·show s_l9Substitute_L2b (s_l9Substitute n) c x s c go i o = _
    unfold s_l9Substitute_L2b
    subst ho
    rw [if_pos (by omega), r8 hi, i9, K6 x s hs hsc n _ (by have := B1 hi; omega) (s8 hc (List.getElem_mem hi)) (by have := B1 hi; omega), i9, r8 (by simp; omega), i9, o3 (by omega), Int.toNat_natCast, set_map hi, hgo _ rfl]
   ·show s_l9Substitute_L2b (s_l9Substitute n) c x s c go _ o = _
    unfold s_l9Substitute_L2b
    subst ho
    rw [if_neg (by omega)]; simp
  by_cases h1 : c.kind = 2 <;> by_cases h2 : c.number = x <;> simp [h1, h2, hl]
end Go.Abs

namespace Go.Abs
open PCore
def atomV (d : PDat) : PVal := if d.kind = 1 then PVal.mk 4 0 d.text else if d.kind = 2 then PVal.mk 3 d.number [] else if d.kind = 3 then PVal.mk 2 d.number [] else if d.kind = 4 then PVal.mk 5 0 d.text else PVal.mk 1 0 []
theorem dQ (n : Nat) (d : PDat) (h : d.items = []) : i_valueOf (n + 1) d [] = some (atomV d, []) := by
 show i_valueOf_b (i_valueOf n) d [] = _
 unfold i_valueOf_b atomV
 have hl : itr (i_valueOf_L1 (i_valueOf n) d) LF (((d.items.length : Int) - 1), [], (PVal.mk 1 0 ([] : List UInt8))) = some (PVal.mk 1 0 [], []) := by
  rw [h]
  refine cC (L := i_valueOf_L1 (i_valueOf n) d) (fun v => some (v.2.2, v.2.1)) (fun v => v.1 = -1) (fun _ => 0) (fun go v hv _ => ?_) _ (by rfl) (by omega)
  obtain ⟨i, ps, l⟩ := v
  have hv' : i = -1 := hv
  subst hv'
  rfl
 rw [o3 (by rw [h]; exact Z5 (by simp)), hl]
 repeat' split
 all_goals rfl
theorem Q8 (n : Nat) (d : PDat) (h : d.items = []) : s_l8Quote (n + 1) d [] = some (atomV d, []) := by
 show s_l8Quote_b (s_l8Quote n) d [] = _
 unfold s_l8Quote_b atomV
 have hl : itr (s_l8Quote_L1 (s_l8Quote n) d) LF (((d.items.length : Int) - 1), [], (PVal.mk 1 0 ([] : List UInt8))) = some (PVal.mk 1 0 [], []) := by
  rw [h]
  refine cC (L := s_l8Quote_L1 (s_l8Quote n) d) (fun v => some (v.2.2, v.2.1)) (fun v => v.1 = -1) (fun _ => 0) (fun go v hv _ => ?_) _ (by rfl) (by omega)
  obtain ⟨i, ps, l⟩ := v
  have hv' : i = -1 := hv
  subst hv'
  rfl
 rw [o3 (by rw [h]; exact Z5 (by simp)), hl]
 repeat' split
 all_goals rfl
def isAt (c : PCore) : Bool := decide (c.kind = 1) && decide ((c.datum.items.length : Int) = 0)
theorem R2 (c : PCore) : i_isAtom c = some (isAt c) := by
 unfold i_isAtom isAt
 by_cases h : c.kind = 1 <;> simp [h]
theorem R7 (c : PCore) : s_l9Atom c = some (isAt c) := by
 unfold s_l9Atom isAt
 by_cases h : c.kind = 1 <;> simp [h]
def nums9 (a : PVal) : Prop := a.kind = 3 → -999999999 ≤ a.number ∧ a.number ≤ 999999999
def plainV (a : PVal) : Prop := nums9 a ∧ a.kind ≠ 7
def arT (p : Int) : Int := if p = 6 ∨ p = 7 ∨ p = 8 ∨ p = 9 ∨ p = 10 ∨ p = 12 ∨ p = 13 then 1 else 2
theorem cases14 {p : Int} (h : 0 ≤ p ∧ p ≤ 13) : p = 0 ∨ p = 1 ∨ p = 2 ∨ p = 3 ∨ p = 4 ∨ p = 5 ∨ p = 6 ∨ p = 7 ∨ p = 8 ∨ p = 9 ∨ p = 10 ∨ p = 11 ∨ p = 12 ∨ p = 13 := by omega
theorem hZ {p : Int} (h : 0 ≤ p ∧ p ≤ 13) : i_ArityOf p = some (arT p) := by
 rcases cases14 h with rfl | rfl | rfl | rfl | rfl | rfl | rfl | rfl | rfl | rfl | rfl | rfl | rfl | rfl <;> rfl
theorem iP {p : Int} (h : 0 ≤ p ∧ p ≤ 13) : s_ArityOf p = some (arT p) := by
 rcases cases14 h with rfl | rfl | rfl | rfl | rfl | rfl | rfl | rfl | rfl | rfl | rfl | rfl | rfl | rfl <;> rfl
theorem i_isPure_eq {p : Int} (h : 0 ≤ p ∧ p ≤ 13) : i_isPure p = some (decide (p ≠ 5) && decide (p ≠ 13)) := by
 rcases cases14 h with rfl | rfl | rfl | rfl | rfl | rfl | rfl | rfl | rfl | rfl | rfl | rfl | rfl | rfl <;> rfl
def badT (x : List UInt8) : PVal × List UInt8 := (PVal.mk 0 0 [], x ++ [58, 32, 98, 97, 100, 32, 97, 114, 103, 117, 109, 101, 110, 116])
def boolV (b : Bool) : PVal := if b = true then PVal.mk 2 1 [] else PVal.mk 2 0 []
theorem J9 (b : Bool) : i_booleanOf b = some (boolV b) := by cases b <;> rfl
theorem F9 (b : Bool) : s_l8Bool b = some (boolV b) := by cases b <;> rfl
theorem mul_in {a b : Int} (h1 : -999999999 ≤ a ∧ a ≤ 999999999) (h2 : -999999999 ≤ b ∧ b ≤ 999999999) : -9223372036854775808 ≤ a * b ∧ a * b ≤ 9223372036854775807 := by
 have e := Int.natAbs_mul a b
 have l : a.natAbs * b.natAbs ≤ 999999999 * 999999999 := Nat.mul_le_mul (by omega) (by omega)
 rw [← e] at l
 generalize a * b = z at l
 omega
theorem lim_eq (z : Int) (hz : I64 z) (v e : PVal × List UInt8) : (if I64 z then if z < -999999999 then some e else if 999999999 < z then some e else some v else none) = bnd (if I64 z then if -999999999 ≤ z ∧ z ≤ 999999999 then some v else some e else none) fun x => some (x.1, x.2) := by
 rw [if_pos hz, if_pos hz]
 by_cases h1 : z < -999999999
 ·rw [if_pos h1, if_neg (by omega)]; rfl
 ·rw [if_neg h1]
  by_cases h2 : 999999999 < z
  ·rw [if_pos h2, if_neg (by omega)]; rfl
  ·rw [if_neg h2, if_pos (by omega)]; rfl
theorem two_eq {p : Int} (h : p = 0 ∨ p = 1 ∨ p = 2 ∨ p = 3 ∨ p = 4) (a b : PVal) (ha : plainV a) (hb : plainV b) : i_applied p [a, b] [] = s_l8Apply p [a, b] [] := by
 have h1 := ha.1
 have h2 := hb.1
 unfold nums9 at h1 h2
 have n0 : nth [a, b] 0 = some a := rfl
 have n1 : nth [a, b] 1 = some b := rfl
 by_cases k1 : a.kind = 3
 ·by_cases k2 : b.kind = 3
  ·have h1 := h1 k1
   have h2 := h2 k2
   have hm := mul_in h1 h2
   rcases h with rfl | rfl | rfl | rfl | rfl
   all_goals
    unfold i_applied s_l8Apply i_PrimitiveNames s_PrimitiveNames
    simp only [i9, n0, n1]
    simp [nth, i_applied_J1, s_l8Apply_J1, s_l8Numbers, k1, k2, J9, F9, D0, inside, chk]
   ·exact lim_eq _ (Z5 (by omega)) _ _
   ·exact lim_eq _ (Z5 (by omega)) _ _
   ·exact lim_eq _ (Z5 hm) _ _
  ·rcases h with rfl | rfl | rfl | rfl | rfl
   all_goals
    unfold i_applied s_l8Apply i_PrimitiveNames s_PrimitiveNames
    simp only [i9, n0, n1]
    simp [nth, i_applied_J1, s_l8Apply_J1, k1, k2, chk]
 ·rcases h with rfl | rfl | rfl | rfl | rfl
  all_goals
   unfold i_applied s_l8Apply i_PrimitiveNames s_PrimitiveNames
   simp only [i9, n0, n1]
   simp [nth, i_applied_J1, s_l8Apply_J1, k1, chk]
theorem eq_eq (a b : PVal) : i_applied 11 [a, b] [] = s_l8Apply 11 [a, b] [] := by
 have n0 : nth [a, b] 0 = some a := rfl
 have n1 : nth [a, b] 1 = some b := rfl
 unfold i_applied s_l8Apply i_PrimitiveNames s_PrimitiveNames
 simp only [i9, n0, n1]
 simp [nth, s_l8Apply_J1, s_l8Apply_J2, J9, F9, chk]
theorem iC (x : PVal) : i_isFalse x = some (decide (x.kind = 2) && decide (x.number = 0)) := by
 unfold i_isFalse
 by_cases h : x.kind = 2 <;> simp [h]
theorem O1 (x : PVal) : s_l8False x = some (decide (x.kind = 2) && decide (x.number = 0)) := by
 unfold s_l8False
 by_cases h : x.kind = 2 <;> simp [h]
theorem one_eq {p : Int} (h : p = 6 ∨ p = 7 ∨ p = 8 ∨ p = 9 ∨ p = 10 ∨ p = 12) (a : PVal) (ha : plainV a) : i_applied p [a] [] = s_l8Apply p [a] [] := by
 have n0 : nth [a] 0 = some a := rfl
 have k := ha.2
 rcases h with rfl | rfl | rfl | rfl | rfl | rfl
 all_goals
  unfold i_applied s_l8Apply i_PrimitiveNames s_PrimitiveNames
  simp only [i9, n0]
  simp [nth, i_applied_J1, s_l8Apply_J1, s_l8Apply_J2, J9, F9, iC, O1, k, chk]
theorem app_eq {p : Int} (h : 0 ≤ p ∧ p ≤ 13) (h5 : p ≠ 5) (h13 : p ≠ 13) (args : List PVal) (hl : (args.length : Int) = arT p) (ha : ∀ a ∈ args, plainV a) : i_applied p args [] = s_l8Apply p args [] := by
 unfold arT at hl
 by_cases h1 : p = 6 ∨ p = 7 ∨ p = 8 ∨ p = 9 ∨ p = 10 ∨ p = 12 ∨ p = 13
 ·rw [if_pos h1] at hl
  match args, hl, ha with
  | [a], _, ha => exact one_eq (by omega) a (ha a (by simp))
  | [], hl, _ => simp at hl
  | _ :: _ :: _, hl, _ => simp at hl; omega
 ·rw [if_neg h1] at hl
  match args, hl, ha with
  | [a, b], _, ha =>
   by_cases h11 : p = 11
   ·subst h11; exact eq_eq a b
   ·exact two_eq (by omega) a b (ha a (by simp)) (ha b (by simp))
  | [], hl, _ => simp at hl
  | [_], hl, _ => simp at hl
  | _ :: _ :: _ :: _, hl, _ => simp at hl; omega
theorem fL (z : Int) (hz : I64 z) (v e : PVal × List UInt8) : ∃ a b, (bnd (if I64 z then if -999999999 ≤ z ∧ z ≤ 999999999 then some v else some e else none) fun x => some (x.1, x.2)) = some (a, b) := by
 rw [if_pos hz]
 split <;> exact ⟨_, _, rfl⟩
theorem two_some {p : Int} (h : p = 0 ∨ p = 1 ∨ p = 2 ∨ p = 3 ∨ p = 4) (a b : PVal) (ha : plainV a) (hb : plainV b) : ∃ r, s_l8Apply p [a, b] [] = some r := by
 have h1 := ha.1
 have h2 := hb.1
 unfold nums9 at h1 h2
 have n0 : nth [a, b] 0 = some a := rfl
 have n1 : nth [a, b] 1 = some b := rfl
 by_cases k1 : a.kind = 3
 ·by_cases k2 : b.kind = 3
  ·have h1 := h1 k1
   have h2 := h2 k2
   have hm := mul_in h1 h2
   rcases h with rfl | rfl | rfl | rfl | rfl
   all_goals
    unfold s_l8Apply s_PrimitiveNames
    simp only [i9, n0, n1]
    simp [nth, s_l8Apply_J1, s_l8Numbers, k1, k2, F9, D0, inside, chk]
   ·exact fL _ (Z5 (by omega)) _ _
   ·exact fL _ (Z5 (by omega)) _ _
   ·exact fL _ (Z5 hm) _ _
  ·rcases h with rfl | rfl | rfl | rfl | rfl
   all_goals
    unfold s_l8Apply s_PrimitiveNames
    simp only [i9, n0, n1]
    simp [nth, s_l8Apply_J1, k1, k2, chk]
 ·rcases h with rfl | rfl | rfl | rfl | rfl
  all_goals
   unfold s_l8Apply s_PrimitiveNames
   simp only [i9, n0, n1]
   simp [nth, s_l8Apply_J1, k1, chk]
theorem eq_some (a b : PVal) : ∃ r, s_l8Apply 11 [a, b] [] = some r := by
 have n0 : nth [a, b] 0 = some a := rfl
 have n1 : nth [a, b] 1 = some b := rfl
 unfold s_l8Apply s_PrimitiveNames
 simp only [i9, n0, n1]
 simp [nth, s_l8Apply_J1, s_l8Apply_J2, F9, chk]
theorem one_some {p : Int} (h : p = 6 ∨ p = 7 ∨ p = 8 ∨ p = 9 ∨ p = 10 ∨ p = 12) (a : PVal) (ha : plainV a) : ∃ r, s_l8Apply p [a] [] = some r := by
 have n0 : nth [a] 0 = some a := rfl
 have k := ha.2
 rcases h with rfl | rfl | rfl | rfl | rfl | rfl
 all_goals
  unfold s_l8Apply s_PrimitiveNames
  simp only [i9, n0]
  simp [nth, s_l8Apply_J1, s_l8Apply_J2, F9, O1, k, chk]
theorem app_some {p : Int} (h : 0 ≤ p ∧ p ≤ 13) (h5 : p ≠ 5) (h13 : p ≠ 13) (args : List PVal) (hl : (args.length : Int) = arT p) (ha : ∀ a ∈ args, plainV a) : ∃ r, s_l8Apply p args [] = some r := by
 unfold arT at hl
 by_cases h1 : p = 6 ∨ p = 7 ∨ p = 8 ∨ p = 9 ∨ p = 10 ∨ p = 12 ∨ p = 13
 ·rw [if_pos h1] at hl
  match args, hl, ha with
  | [a], _, ha => exact one_some (by omega) a (ha a (by simp))
  | [], hl, _ => simp at hl
  | _ :: _ :: _, hl, _ => simp at hl; omega
 ·rw [if_neg h1] at hl
  match args, hl, ha with
  | [a, b], _, ha =>
   by_cases h11 : p = 11
   ·subst h11; exact eq_some a b
   ·exact two_some (by omega) a b (ha a (by simp)) (ha b (by simp))
  | [], hl, _ => simp at hl
  | [_], hl, _ => simp at hl
  | _ :: _ :: _ :: _, hl, _ => simp at hl; omega
def failR : PCore × Bool := (PCore.mk 0 0 [] (PDat.mk 0 0 ([] : List UInt8) []) [], false)
theorem dW {L : (Int × List PVal → Option (PCore × Bool)) → Int × List PVal → Option (PCore × Bool)} (ks : List PCore) (hn : ks.length ≤ 1048576) (F : List PVal → Option (PCore × Bool)) (E : PDat → List PPair → Option (PVal × List PPair)) (A : PCore → Option Bool) (hA : ∀ x, A x = some (isAt x))
 (hE : ∀ x : PCore, isAt x = true → E x.datum [] = some (atomV x.datum, []))
 (hL : ∀ go (i : Int) o, L go (i, o) = if i < (ks.length : Int) then bnd (nth ks i) fun x => bnd (A x) fun b => if b = true then bnd (E x.datum []) fun y => chk ((o.length + ([y.1] : List PVal).length) * 32 ≤ 140737488355328) <| chk (I64 (i + 1)) <| go (i + 1, o ++ ([y.1] : List PVal)) else some failR else F o) :
 itr L LF (0, []) = if ks.all isAt = true then F (ks.map fun x => atomV x.datum) else some failR := by
 rw [y9 (L := L) ks.length (fun i o => o.length = i) (fun i o => if (ks.drop i).all isAt = true then F (o ++ (ks.drop i).map fun x => atomV x.datum) else some failR) (by omega) (fun go i o hi ho hgo => ?_) (fun go o ho => ?_) (by simp)]
 ·simp
 ·rw [hL, if_pos (by omega), r8 hi, i9, hA, i9, List.drop_eq_getElem_cons hi, List.all_cons, List.map_cons]
  cases h : isAt ks[i]
  ·simp
  ·rw [if_pos rfl, hE _ h, i9, o3 (by simp; omega), o3 (by omega), hgo _ (by simp [ho]), Bool.true_and, List.append_assoc]; rfl
 ·rw [hL, if_neg (by omega), List.drop_length]; simp
def datR (n k : Int) : PCore × Bool := (PCore.mk 1 0 [] (PDat.mk k n ([] : List UInt8) []) [], true)
def resOf (r : PVal × List UInt8) : PCore × Bool := if r.2 = ([] : List UInt8) then (if r.1.kind = 1 then datR 0 0 else if r.1.kind = 2 then datR r.1.number 3 else if r.1.kind = 3 then datR r.1.number 2 else failR) else failR
def appV (p : Int) (args : List PVal) : PVal × List UInt8 := (s_l8Apply p args []).getD (PVal.mk 0 0 [], [])
def avs (ks : List PCore) : List PVal := ks.map fun x => atomV x.datum
def foldR (c : PCore) : PCore × Bool := if c.kind = 6 then (match c.kids with
 | [] => failR
 | f :: ks => if f.kind = 3 then (if (f.number ≠ 5 ∧ f.number ≠ 13) ∧ ((ks.length : Int) = arT f.number ∧ ks.all isAt = true) then resOf (appV f.number (avs ks)) else failR) else failR) else failR
theorem G4 : ∀ {ks : List PCore} {x : PCore}, okAlls ks = true → x ∈ ks → okAll x = true
 | d :: r, x, h, hx => by
  unfold okAlls at h
  rw [Bool.and_eq_true] at h
  rcases List.mem_cons.1 hx with rfl | hx
  ·exact h.1
  ·exact G4 h.2 hx
theorem Q2 {c : PCore} (h : okAll c = true) : shapeOK c = true := by
 rw [okAll_eq] at h
 simp only [Bool.and_eq_true] at h
 exact h.1.1
theorem plain_of {c : PCore} (h : okAll c = true) (ha : isAt c = true) : plainV (atomV c.datum) := by
 have hs := Q2 h
 unfold isAt at ha
 simp only [Bool.and_eq_true, decide_eq_true_eq] at ha
 unfold shapeOK at hs
 rw [if_pos ha.1] at hs
 simp only [Bool.and_eq_true] at hs
 have hd := hs.2.2.2.2
 unfold PDat.valid at hd
 simp only [Bool.and_eq_true] at hd
 have ho := hd.2.2
 rw [PDat.okAll_eq, Bool.and_eq_true] at ho
 have hn := ho.1
 unfold plainV nums9 atomV
 by_cases k1 : c.datum.kind = 1
 ·rw [if_pos k1]; exact ⟨fun h => by simp at h, by simp⟩
 ·by_cases k2 : c.datum.kind = 2
  ·rw [if_neg k1, if_pos k2]
   unfold PDat.nodeOK at hn
   rw [if_neg (by omega), if_neg k1, if_pos k2] at hn
   unfold inside at hn
   simp only [Bool.and_eq_true, decide_eq_true_eq] at hn
   exact ⟨fun _ => ⟨hn.1.1, hn.1.2⟩, by simp⟩
  ·rw [if_neg k1, if_neg k2]
   split
   ·exact ⟨fun h => by simp at h, by simp⟩
   ·split
    ·exact ⟨fun h => by simp at h, by simp⟩
    ·exact ⟨fun h => by simp at h, by simp⟩
theorem bC {ks : List PCore} (h : okAlls ks = true) (ha : ks.all isAt = true) : ∀ a ∈ avs ks, plainV a := fun a hx => by
 obtain ⟨x, hm, rfl⟩ := List.mem_map.1 hx
 exact plain_of (G4 h hm) (List.all_eq_true.1 ha x hm)
theorem cB {x : PCore} (h : isAt x = true) : x.datum.items = [] := by
 unfold isAt at h
 simp only [Bool.and_eq_true, decide_eq_true_eq] at h
 exact List.length_eq_zero_iff.1 (by omega)
theorem RF_succ : RF = 18446744073709551615 + 1 := by rw [RF_eq]
theorem s_res_eq (r : PVal × List UInt8) : (bnd (s_l9Datum r.1) fun x9 => if r.2 = ([] : List UInt8) then (if x9.2 = true then some ((PCore.mk 1 0 [] x9.1 [] : PCore), true) else some failR) else some failR) = some (resOf r) := by
 unfold s_l9Datum resOf datR
 by_cases h : r.2 = [] <;> by_cases k1 : r.1.kind = 1 <;> by_cases k2 : r.1.kind = 2 <;> by_cases k3 : r.1.kind = 3 <;> simp [h, k1, k2, k3]
theorem i_res_eq (r : PVal × List UInt8) : (if r.2 = ([] : List UInt8) then (if r.1.kind = 1 then some ((PCore.mk 1 0 [] (PDat.mk 0 0 ([] : List UInt8) []) [] : PCore), true) else if r.1.kind = 2 then some (PCore.mk 1 0 [] (PDat.mk 3 r.1.number ([] : List UInt8) []) [], true) else if r.1.kind = 3 then some (PCore.mk 1 0 [] (PDat.mk 2 r.1.number ([] : List UInt8) []) [], true) else some failR) else some failR) = some (resOf r) := by
 unfold resOf datR
 by_cases h : r.2 = [] <;> by_cases k1 : r.1.kind = 1 <;> by_cases k2 : r.1.kind = 2 <;> by_cases k3 : r.1.kind = 3 <;> simp [h, k1, k2, k3]
theorem head_ok {c f : PCore} {ks : List PCore} (hv : okAll c = true) (hk : c.kids = f :: ks) (h3 : f.kind = 3) : (0 ≤ f.number ∧ f.number ≤ 13) ∧ okAlls ks = true := by
 rw [okAll_eq, Bool.and_eq_true] at hv
 have h := hv.2
 rw [hk] at h
 unfold okAlls at h
 rw [Bool.and_eq_true] at h
 refine ⟨?_, h.2⟩
 have hs := Q2 h.1
 unfold shapeOK at hs
 rw [if_neg (by omega), if_neg (by omega), if_pos h3] at hs
 unfold inside at hs
 simp only [Bool.and_eq_true, decide_eq_true_eq] at hs
 exact ⟨hs.2.2.2.2.1, hs.2.2.2.2.2⟩
theorem cE {c : PCore} (hv : okAll c = true) (h6 : c.kind = 6) : ∃ f ks, c.kids = f :: ks := by
 have hs := Q2 hv
 unfold shapeOK at hs
 rw [if_neg (by omega), if_neg (by omega), if_neg (by omega), if_neg (by omega), if_neg (by omega), if_pos h6] at hs
 unfold inside at hs
 simp only [Bool.and_eq_true, decide_eq_true_eq] at hs
 cases hk : c.kids with
 | nil => rw [hk] at hs; have := hs.2.2.2.1; simp at this
 | cons f ks => exact ⟨f, ks, rfl⟩
theorem s_l9Fold_eq (c : PCore) (hc : c.nice) (hv : okAll c = true) : s_l9Fold c = some (foldR c) := by
 unfold s_l9Fold foldR
 by_cases h6 : c.kind = 6
 ·obtain ⟨f, ks, hk⟩ := cE hv h6
  have hn := ((t6 c).1 hc).2.2.1
  rw [hk] at hn
  simp only [List.length_cons] at hn
  have n0 : nth c.kids 0 = some f := by rw [hk]; rfl
  have hd : c.kids.drop (1 : Int).toNat = ks := by rw [hk]; rfl
  rw [if_pos h6, if_pos h6, n0, i9, i9]
  rw [hk]
  dsimp only
  by_cases h3 : f.kind = 3
  ·obtain ⟨hr, hks⟩ := head_ok hv hk h3
   rw [if_pos h3, if_pos h3, o3 (by simp; omega)]
   rw [dW (L := s_l9Fold_L1 c f) ks (by omega) (fun args => if f.number = 5 then some failR else if f.number = 13 then some failR else bnd (s_ArityOf f.number) fun x7 => if (args.length : Int) = x7 then bnd (s_l8Apply f.number args []) fun x8 => bnd (s_l9Datum x8.1) fun x9 => if x8.2 = ([] : List UInt8) then (if x9.2 = true then some ((PCore.mk 1 0 [] x9.1 [] : PCore), true) else some failR) else some failR else some failR) (s_l8Quote RF) s_l9Atom R7 (fun x hx => by rw [RF_succ]; exact Q8 _ _ (cB hx)) (fun go i o => by
    show s_l9Fold_L1b c f go i o = _
    unfold s_l9Fold_L1b
    rw [hd]; rfl)]
   rw [iP hr]
   by_cases ha : ks.all isAt = true
   ·rw [if_pos ha]
    by_cases h5 : f.number = 5
    ·rw [if_pos h5, if_neg (by simp [h5])]
    ·by_cases h13 : f.number = 13
     ·rw [if_neg h5, if_pos h13, if_neg (by simp [h13])]
     ·rw [if_neg h5, if_neg h13, i9]
      have hla : (avs ks).length = ks.length := by simp [avs]
      by_cases hl : (ks.length : Int) = arT f.number
      ·rw [if_pos (by rw [List.length_map]; exact hl), if_pos ⟨⟨h5, h13⟩, hl, ha⟩]
       obtain ⟨r, e⟩ := app_some hr h5 h13 (avs ks) (by rw [hla]; exact hl) (bC hks ha)
       have e2 : appV f.number (avs ks) = r := by unfold appV; rw [e]; rfl
       rw [e2]
       refine (congrArg (bnd · _) e).trans ?_
       rw [i9]
       exact s_res_eq r
      ·rw [if_neg (by rw [List.length_map]; exact hl), if_neg (fun h => hl h.2.1)]
   ·rw [if_neg ha, if_neg (fun h => ha h.2.2)]
  ·rw [if_neg h3, if_neg h3]; rfl
 ·rw [if_neg h6, if_neg h6]; rfl
theorem i_folded_eq (c : PCore) (hc : c.nice) (hv : okAll c = true) : i_folded c = some (foldR c) := by
 unfold i_folded foldR
 by_cases h6 : c.kind = 6
 ·obtain ⟨f, ks, hk⟩ := cE hv h6
  have hn := ((t6 c).1 hc).2.2.1
  rw [hk] at hn
  simp only [List.length_cons] at hn
  have n0 : nth c.kids 0 = some f := by rw [hk]; rfl
  have hd : c.kids.drop (1 : Int).toNat = ks := by rw [hk]; rfl
  have hlen : c.kids.length = ks.length + 1 := by rw [hk]; rfl
  rw [if_pos h6, if_pos h6, n0, i9, i9, hlen]
  rw [hk]
  dsimp only
  by_cases h3 : f.kind = 3
  ·obtain ⟨hr, hks⟩ := head_ok hv hk h3
   rw [if_pos h3, if_pos h3, i_isPure_eq hr, i9, o3 (by omega), hZ hr, i9, o3 (by omega)]
   rw [dW (L := i_folded_L1 c f) ks (by omega) (fun args => bnd (i_applied f.number args []) fun x9 => if x9.2 = ([] : List UInt8) then (if x9.1.kind = 1 then some ((PCore.mk 1 0 [] (PDat.mk 0 0 ([] : List UInt8) []) [] : PCore), true) else if x9.1.kind = 2 then some (PCore.mk 1 0 [] (PDat.mk 3 x9.1.number ([] : List UInt8) []) [], true) else if x9.1.kind = 3 then some (PCore.mk 1 0 [] (PDat.mk 2 x9.1.number ([] : List UInt8) []) [], true) else some failR) else some failR) (i_valueOf RF) i_isAtom R2 (fun x hx => by rw [RF_succ]; exact dQ _ _ (cB hx)) (fun go i o => by
    show i_folded_L1b c f go i o = _
    unfold i_folded_L1b
    rw [hd]; rfl)]
   by_cases h5 : f.number = 5
   ·rw [if_neg (by simp [h5]), if_neg (by simp [h5])]; rfl
   ·by_cases h13 : f.number = 13
    ·rw [if_neg (by simp [h13]), if_neg (by simp [h13])]; rfl
    ·rw [if_pos (by simp [h5, h13])]
     have hla : (avs ks).length = ks.length := by simp [avs]
     by_cases hl : (ks.length : Int) = arT f.number
     ·rw [if_pos (by omega)]
      by_cases ha : ks.all isAt = true
      ·rw [if_pos ha, if_pos ⟨⟨h5, h13⟩, hl, ha⟩]
       obtain ⟨r, e⟩ := app_some hr h5 h13 (avs ks) (by rw [hla]; exact hl) (bC hks ha)
       have e2 : appV f.number (avs ks) = r := by unfold appV; rw [e]; rfl
       rw [e2]
       refine (congrArg (bnd · _) ((app_eq hr h5 h13 (avs ks) (by rw [hla]; exact hl) (bC hks ha)).trans e)).trans ?_
       rw [i9]
       exact i_res_eq r
      ·rw [if_neg ha, if_neg (fun h => ha h.2.2)]
     ·rw [if_neg (by omega), if_neg (fun h => hl h.2.1)]; rfl
  ·rw [if_neg h3, if_neg h3]; rfl
 ·rw [if_neg h6, if_neg h6]; rfl
theorem gF {c : PCore} (h : c.valid = true) : okAll c = true := by
 unfold PCore.valid tree at h
 simp only [Bool.and_eq_true] at h
 exact h.1.2.2
def bare (c : PCore) : Prop := c.nice ∧ c.cnt = 0 ∧ wK c = 0
theorem eV (k n a b : Int) : bare (PCore.mk a b [] (PDat.mk k n [] []) []) := ⟨(t6 _).2 ⟨by simp [PCore.params], by simp [PCore.datum, wD, wDs], by simp [PCore.kids], trivial⟩, rfl, rfl⟩
end Go.Abs
