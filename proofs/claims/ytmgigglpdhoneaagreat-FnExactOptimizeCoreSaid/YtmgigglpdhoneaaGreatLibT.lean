
import Derived.Test.YtmgigglpdhoneaaGreatLibS
import Derived.Test.YtmgigglpdhoneaaGreatLibE
import Derived.Test.YtmgigglpdhoneaaGreatLibD
import Derived.Test.YtmgigglpdhoneaaGreatLibP
set_option linter.unusedVariables false
set_option linter.unusedSimpArgs false
namespace Go.Abs
namespace PC
mutual
def cnt : PC → Nat
 | .mk _ _ _ _ ks => cnts ks
def cnts : List PC → Nat
 | [] => 0
 | c :: r => 1 + cnt c + cnts r
end
theorem cnts_mem : ∀ {ds : List PC} {x : PC}, x ∈ ds → x.cnt + 1 ≤ cnts ds
 | d :: r, x, h => by
  unfold cnts
  rcases List.mem_cons.1 h with rfl | h
  ·omega
  ·have := cnts_mem h; omega
theorem cnts_len : ∀ (ds : List PC), ds.length ≤ cnts ds
 | [] => by simp
 | d :: r => by have := cnts_len r; unfold cnts; simp; omega
theorem cnt_eq (d : PC) : d.cnt = cnts d.kids := by cases d; rfl
theorem T8 {d x : PC} (h : x ∈ d.kids) : x.cnt < d.cnt := by have := cnts_mem h; rw [cnt_eq d]; omega
theorem ind {A : PC → Prop} {B : List PC → Prop} (hB : ∀ ds, (∀ x ∈ ds, A x) → B ds) (hA : ∀ d, B d.kids → A d) : (∀ d, A d) ∧ ∀ ds, B ds := by
 have key : ∀ N, (∀ d : PC, d.cnt < N → A d) ∧ ∀ ds : List PC, cnts ds ≤ N → B ds := by
  intro N
  induction N with
  | zero => exact ⟨fun d h => by omega, fun ds h => hB ds fun x hx => by have := cnts_mem hx; omega⟩
  | succ N ih =>
   have hA' : ∀ d : PC, d.cnt < N + 1 → A d := fun d h => hA d (ih.2 _ (by rw [← cnt_eq]; omega))
   exact ⟨hA', fun ds h => hB ds fun x hx => hA' x (by have := cnts_mem hx; omega)⟩
 exact ⟨fun d => (key (d.cnt + 1)).1 d (by omega), fun ds => (key (cnts ds)).2 ds (Nat.le_refl _)⟩
mutual
def wK : PC → Nat
 | .mk _ _ p d ks => p.length + wD d + wKs ks
def wKs : List PC → Nat
 | [] => 0
 | c :: r => 1 + wK c + wKs r
end
theorem cL (c : PC) : wK c = c.params.length + wD c.datum + wKs c.kids := by cases c; rfl
theorem wKs_eq : ∀ ds : List PC, wKs ds = wts wK ds
 | [] => rfl
 | d :: r => by have := wKs_eq r; unfold wts at *; simp [wKs]; omega
theorem kM : ∀ {ds : List PC} {x : PC}, x ∈ ds → wK x < wKs ds
 | d :: r, x, h => by
  unfold wKs
  rcases List.mem_cons.1 h with rfl | h
  ·omega
  ·have := kM h; omega
theorem lL : (∀ d : PC, d.cnt ≤ wK d) ∧ ∀ ds : List PC, cnts ds ≤ wKs ds := by
 refine ind (fun ds h => ?_) (fun d h => ?_)
 ·induction ds with
  | nil => simp [cnts]
  | cons x r ih => have := h x (by simp); have := ih (fun y hy => h y (by simp [hy])); unfold cnts wKs; omega
 ·rw [cnt_eq, cL]; omega
mutual
def nice : PC → Prop
 | .mk _ _ p d ks => p.length ≤ 1048576 ∧ wD d ≤ 1048576 ∧ ks.length ≤ 1048576 ∧ nices ks
def nices : List PC → Prop
 | [] => True
 | c :: r => nice c ∧ nices r
end
theorem z4 (c : PC) : c.nice ↔ c.params.length ≤ 1048576 ∧ wD c.datum ≤ 1048576 ∧ c.kids.length ≤ 1048576 ∧ nices c.kids := by cases c; exact Iff.rfl
theorem dZ : ∀ {ds : List PC} {x : PC}, nices ds → x ∈ ds → x.nice
 | d :: r, x, h, hx => by
  unfold nices at h
  rcases List.mem_cons.1 hx with rfl | hx
  ·exact h.1
  ·exact dZ h.2 hx
theorem vY : ∀ {ds : List PC}, (∀ x ∈ ds, x.nice) → nices ds
 | [], _ => trivial
 | d :: r, h => ⟨h d (by simp), vY fun x hx => h x (by simp [hx])⟩
theorem nice_wK : (∀ d : PC, wK d ≤ 1048576 → d.nice) ∧ ∀ ds : List PC, wKs ds ≤ 1048576 → nices ds := by
 refine ind (fun ds h hw => vY fun x hx => h x hx (by have := kM hx; omega)) (fun d h hw => ?_)
 rw [cL] at hw
 have h1 := cnts_len d.kids
 have h2 := lL.2 d.kids
 exact (z4 d).2 ⟨by omega, by omega, by omega, h (by omega)⟩
theorem A4 {c x : PC} (h : c.nice) (hx : x ∈ c.kids) : x.nice := dZ ((z4 c).1 h).2.2.2 hx
theorem G2 {c : PC} (h : c.nice) : c.datum.small := small_wD ((z4 c).1 h).2.1
mutual
def wf : PC → Prop
 | .mk k n p d ks => (IntKind.i64.min ≤ k ∧ k ≤ IntKind.i64.max) ∧ (IntKind.i64.min ≤ n ∧ n ≤ IntKind.i64.max) ∧ (p.length ≤ 9223372036854775807 ∧ ∀ x ∈ p, IntKind.i64.min ≤ x ∧ x ≤ IntKind.i64.max) ∧ d.wf ∧ ks.length ≤ 9223372036854775807 ∧ wfs ks
def wfs : List PC → Prop
 | [] => True
 | d :: r => wf d ∧ wfs r
end
theorem wfs_mem : ∀ {ds : List PC} {x : PC}, wfs ds → x ∈ ds → x.wf
 | d :: r, x, h, hx => by
  unfold wfs at h
  rcases List.mem_cons.1 hx with rfl | hx
  ·exact h.1
  ·exact wfs_mem h.2 hx
theorem wfs_of : ∀ {ds : List PC}, (∀ x ∈ ds, x.wf) → wfs ds
 | [], _ => trivial
 | d :: r, h => ⟨h d (by simp), wfs_of fun x hx => h x (by simp [hx])⟩
theorem wf_eq (c : PC) : c.wf ↔ (IntKind.i64.min ≤ c.kind ∧ c.kind ≤ IntKind.i64.max) ∧ (IntKind.i64.min ≤ c.number ∧ c.number ≤ IntKind.i64.max) ∧ (c.params.length ≤ 9223372036854775807 ∧ ∀ x ∈ c.params, IntKind.i64.min ≤ x ∧ x ≤ IntKind.i64.max) ∧ c.datum.wf ∧ c.kids.length ≤ 9223372036854775807 ∧ wfs c.kids := by cases c; exact Iff.rfl
theorem wf_of {x : Int × Int × LI × PD × List PC} (h : (IntKind.i64.min ≤ x.1 ∧ x.1 ≤ IntKind.i64.max) ∧ (IntKind.i64.min ≤ x.2.1 ∧ x.2.1 ≤ IntKind.i64.max) ∧ (x.2.2.1.length ≤ 9223372036854775807 ∧ ∀ y ∈ x.2.2.1, IntKind.i64.min ≤ y ∧ y ≤ IntKind.i64.max) ∧ x.2.2.2.1.wf ∧ x.2.2.2.2.length ≤ 9223372036854775807 ∧ ∀ y ∈ x.2.2.2.2, y.wf) : (PC.mk x.1 x.2.1 x.2.2.1 x.2.2.2.1 x.2.2.2.2).wf :=
 ⟨h.1, h.2.1, h.2.2.1, h.2.2.2.1, h.2.2.2.2.1, wfs_of h.2.2.2.2.2⟩
def named (c : PC) : Bool := decide (c.kind = 2) || decide (c.kind = 4)
def shapeOK (c : PC) : Bool :=
 (decide (c.kind = 1) || PD.eqb c.datum zeroDat) && ((decide (c.number = 0) || (named c || decide (c.kind = 3))) &&
 (if c.kind = 1 then decide ((c.params.length : Int) = 0) && (decide ((c.kids.length : Int) = 0) && c.datum.valid)
 else if c.kind = 2 then decide ((c.params.length : Int) = 0) && decide ((c.kids.length : Int) = 0)
 else if c.kind = 3 then decide ((c.params.length : Int) = 0) && (decide ((c.kids.length : Int) = 0) && inside c.number 0 13)
 else if c.kind = 4 then decide ((c.params.length : Int) = 0) && decide ((c.kids.length : Int) = 1)
 else if c.kind = 5 then decide ((c.params.length : Int) ≤ 8) && decide ((c.kids.length : Int) = 1)
 else if c.kind = 6 then decide ((c.params.length : Int) = 0) && inside (c.kids.length : Int) 1 9
 else if c.kind = 7 then decide ((c.params.length : Int) = 0) && decide ((c.kids.length : Int) = 3)
 else if c.kind = 8 then decide ((c.params.length : Int) = 0) && inside (c.kids.length : Int) 2 60
 else if c.kind = 9 then inside (c.params.length : Int) 1 60 && inside (c.kids.length : Int) 1 60
 else if c.kind = 10 then decide ((c.params.length : Int) = 0) && decide ((c.kids.length : Int) = 1)
 else if c.kind = 11 then decide ((c.params.length : Int) = 1) && decide ((c.kids.length : Int) = 1)
 else false))
def seqOK (c : PC) : Bool := !decide (c.kind = 8) || c.kids.all fun x => !decide (x.kind = 8)
mutual
def okAll : PC → Bool
 | .mk k n p d ks => (shapeOK (.mk k n p d ks) && seqOK (.mk k n p d ks)) && okAlls ks
def okAlls : List PC → Bool
 | [] => true
 | d :: r => okAll d && okAlls r
end
mutual
def depth : PC → Int
 | .mk _ _ _ _ ks => depths ks + 1
def depths : List PC → Int
 | [] => 0
 | d :: r => max (depth d) (depths r)
end
mutual
def meas : PC → Int → Int → Bool × Int
 | .mk k n p d ks, deep, nodes => if 150 < deep ∨ 3000 < nodes + 1 ∨ (shapeOK (.mk k n p d ks) && seqOK (.mk k n p d ks)) = false then (false, nodes + 1) else measL ks (deep + 1) (nodes + 1)
def measL : List PC → Int → Int → Bool × Int
 | [], _, nodes => (true, nodes)
 | d :: r, deep, nodes => if (meas d deep nodes).1 = true then measL r deep (meas d deep nodes).2 else (false, (meas d deep nodes).2)
end
mutual
def few : PC → Int → Int
 | .mk _ _ _ _ ks, left => fews ks (left - 1)
def fews : List PC → Int → Int
 | [], left => left
 | d :: r, left => if 0 ≤ left then fews r (few d left) else left
end
def tree (d : PC) : Bool := decide ((d.cnt : Int) + 1 ≤ 3000) && (decide (d.depth ≤ 150) && d.okAll)
theorem D1 : ∀ ds : List PC, 0 ≤ depths ds
 | [] => by simp [depths]
 | d :: r => by have := D1 r; unfold depths; omega
theorem lW : (∀ (d : PC) (deep nodes : Int), ((meas d deep nodes).1 = true ↔ deep + d.depth ≤ 151 ∧ nodes + 1 + d.cnt ≤ 3000 ∧ d.okAll = true) ∧ ((meas d deep nodes).1 = true → (meas d deep nodes).2 = nodes + 1 + d.cnt)) ∧
 (∀ (ds : List PC) (deep nodes : Int), deep ≤ 151 → nodes ≤ 3000 → ((measL ds deep nodes).1 = true ↔ deep + depths ds ≤ 151 ∧ nodes + cnts ds ≤ 3000 ∧ okAlls ds = true) ∧ ((measL ds deep nodes).1 = true → (measL ds deep nodes).2 = nodes + cnts ds)) := by
 refine ind (fun ds ih => ?_) (fun d ih => ?_)
 ·induction ds with
  | nil => intro deep nodes h1 h2; simp [measL, depths, cnts, okAlls]; omega
  | cons x r ihr =>
   intro deep nodes h1 h2
   have hx := ih x (by simp) deep nodes
   have hr := ihr (fun y hy => ih y (by simp [hy])) deep
   have hd := D1 r
   unfold measL depths cnts okAlls
   by_cases hb : (meas x deep nodes).1 = true
   ·rw [if_pos hb]
    have h3 := hx.1.1 hb
    have h4 := hx.2 hb
    have h5 := hr (meas x deep nodes).2 h1 (by omega)
    rw [h5.1, h3.2.2, h4, Bool.true_and]
    refine ⟨⟨fun h => ⟨by omega, by omega, h.2.2⟩, fun h => ⟨by omega, by omega, h.2.2⟩⟩, fun h => ?_⟩
    rw [← h4, h5.2 (h5.1.2 (by rw [h4]; exact h)), h4]
    omega
   ·rw [if_neg hb]
    refine ⟨⟨fun h => by simp at h, fun h => ?_⟩, fun h => by simp at h⟩
    refine absurd (hx.1.2 ⟨by omega, by omega, ?_⟩) hb
    have := h.2.2
    simp only [Bool.and_eq_true] at this
    exact this.1
 ·intro deep nodes
  obtain ⟨k, n, p, d, is⟩ := d
  have ih' : ∀ (deep nodes : Int), deep ≤ 151 → nodes ≤ 3000 → ((measL is deep nodes).1 = true ↔ deep + depths is ≤ 151 ∧ nodes + cnts is ≤ 3000 ∧ okAlls is = true) ∧ ((measL is deep nodes).1 = true → (measL is deep nodes).2 = nodes + cnts is) := ih
  have hd := D1 is
  unfold meas depth cnt okAll
  generalize (shapeOK (.mk k n p d is) && seqOK (.mk k n p d is)) = b
  by_cases hc : 150 < deep ∨ 3000 < nodes + 1 ∨ b = false
  ·rw [if_pos hc]
   refine ⟨⟨fun h => by simp at h, fun h => ?_⟩, fun h => by simp at h⟩
   have := h.2.2
   simp only [Bool.and_eq_true] at this
   rcases hc with hc | hc | hc
   ·omega
   ·omega
   ·rw [this.1] at hc; cases hc
  ·rw [if_neg hc]
   have h0 : b = true := by cases b <;> simp_all
   have h5 := ih' (deep + 1) (nodes + 1) (by omega) (by omega)
   rw [h5.1, h0, Bool.true_and]
   refine ⟨⟨fun h => ⟨by omega, by omega, h.2.2⟩, fun h => ⟨by omega, by omega, h.2.2⟩⟩, fun h => ?_⟩
   rw [h5.2 (h5.1.2 h)]
theorem qW : (∀ (d : PC) (left : Int), 0 ≤ left → (-1 ≤ few d left ∧ few d left ≤ left) ∧ (0 ≤ few d left ↔ (d.cnt : Int) + 1 ≤ left) ∧ (0 ≤ few d left → few d left = left - (d.cnt + 1))) ∧
 (∀ (ds : List PC) (left : Int), -1 ≤ left → (-1 ≤ fews ds left ∧ fews ds left ≤ left) ∧ (0 ≤ fews ds left ↔ (cnts ds : Int) ≤ left) ∧ (0 ≤ fews ds left → fews ds left = left - cnts ds)) := by
 refine ind (fun ds ih => ?_) (fun d ih => ?_)
 ·induction ds with
  | nil => intro left h; simp [fews, cnts]; omega
  | cons x r ihr =>
   intro left h
   unfold fews cnts
   by_cases h0 : 0 ≤ left
   ·rw [if_pos h0]
    have hx := ih x (by simp) left h0
    have hr := ihr (fun y hy => ih y (by simp [hy])) (few x left) (by omega)
    refine ⟨by omega, ⟨fun h => ?_, fun h => ?_⟩, fun h => ?_⟩
    ·have h1 := hr.2.1.1 h
     have h2 := hx.2.2 (by omega)
     omega
    ·have h2 := hx.2.2 (hx.2.1.2 (by omega))
     exact hr.2.1.2 (by omega)
    ·have h1 := hr.2.1.1 h
     have h2 := hx.2.2 (by omega)
     have h3 := hr.2.2 h
     omega
   ·rw [if_neg h0]
    refine ⟨by omega, ⟨fun h => by omega, fun h => by omega⟩, fun h => by omega⟩
 ·intro left h0
  obtain ⟨k, n, p, d, is⟩ := d
  have h := ih (left - 1) (by omega)
  have h' : (-1 ≤ fews is (left - 1) ∧ fews is (left - 1) ≤ left - 1) ∧ (0 ≤ fews is (left - 1) ↔ (cnts is : Int) ≤ left - 1) ∧ (0 ≤ fews is (left - 1) → fews is (left - 1) = left - 1 - cnts is) := h
  unfold few cnt
  refine ⟨by omega, by rw [h'.2.1]; omega, fun h => by rw [h'.2.2 h]; omega⟩
theorem meas_tree (d : PC) : (meas d 1 0).1 = d.tree := by
 have h := (lW.1 d 1 0).1
 generalize meas d 1 0 = q at h
 have e : d.tree = true ↔ ((d.cnt : Int) + 1 ≤ 3000 ∧ d.depth ≤ 150 ∧ d.okAll = true) := by
  unfold tree
  rw [Bool.and_eq_true, Bool.and_eq_true, decide_eq_true_iff, decide_eq_true_iff]
 rw [Bool.eq_iff_iff, h, e]
 refine ⟨fun h => ⟨by omega, by omega, h.2.2⟩, fun h => ⟨by omega, by omega, h.2.2⟩⟩
theorem few_tree (d : PC) : (decide (0 ≤ few d 3000) && (decide (d.depth ≤ 150) && d.okAll)) = d.tree := by
 have h := (qW.1 d 3000 (by omega)).2.1
 have e : decide (0 ≤ few d 3000) = decide ((d.cnt : Int) + 1 ≤ 3000) := decide_eq_decide.2 h
 unfold tree
 rw [e]
theorem meas_eq (d : PC) (deep nodes : Int) : meas d deep nodes = if 150 < deep ∨ 3000 < nodes + 1 ∨ (shapeOK d && seqOK d) = false then (false, nodes + 1) else measL d.kids (deep + 1) (nodes + 1) := by cases d; rfl
theorem few_eq (d : PC) (left : Int) : few d left = fews d.kids (left - 1) := by cases d; rfl
theorem qT (d : PC) : d.depth = depths d.kids + 1 := by cases d; rfl
theorem okAll_eq (d : PC) : d.okAll = ((shapeOK d && seqOK d) && okAlls d.kids) := by cases d; rfl
theorem qS : (∀ d : PC, d.depth ≤ d.cnt + 1 ∧ 1 ≤ d.depth) ∧ ∀ ds : List PC, depths ds ≤ cnts ds := by
 refine ind (fun ds ih => ?_) (fun d ih => ?_)
 ·induction ds with
  | nil => simp [depths, cnts]
  | cons x r ihr =>
   have h1 := ih x (by simp)
   have h2 := ihr fun y hy => ih y (by simp [hy])
   unfold depths cnts
   omega
 ·have := D1 d.kids
  rw [qT, cnt_eq]
  omega
mutual
def bnds : PC → LI
 | .mk _ _ p _ ks => p ++ bndsL ks
def bndsL : List PC → LI
 | [] => []
 | c :: r => bnds c ++ bndsL r
end
theorem bnds_eq (c : PC) : bnds c = c.params ++ bndsL c.kids := by cases c; rfl
theorem ae3 : (∀ c : PC, (bnds c).length ≤ wK c) ∧ ∀ ds : List PC, (bndsL ds).length ≤ wKs ds := by
 refine ind (fun ds h => ?_) (fun d h => ?_)
 ·induction ds with
  | nil => simp [bndsL]
  | cons x r ih => have := h x (by simp); have := ih (fun y hy => h y (by simp [hy])); unfold bndsL wKs; simp; omega
 ·rw [bnds_eq, cL]; simp; omega
def freeOne (c : PC) (b o : LI) : LI := if (named c && (!b.contains c.number && !o.contains c.number)) = true then o ++ [c.number] else o
mutual
def free : PC → LI → LI → LI
 | .mk k n p d ks, b, o => frees ks (b ++ p) (freeOne (.mk k n p d ks) b o)
def frees : List PC → LI → LI → LI
 | [], _, o => o
 | c :: r, b, o => frees r b (free c b o)
end
theorem af3 (c : PC) (b o : LI) : free c b o = frees c.kids (b ++ c.params) (freeOne c b o) := by cases c; rfl
theorem freeOne_len (c : PC) (b o : LI) : (freeOne c b o).length ≤ o.length + 1 := by unfold freeOne; split <;> simp
theorem vU : (∀ (c : PC) (b o : LI), (free c b o).length ≤ o.length + 1 + cnt c) ∧ ∀ (ds : List PC) (b o : LI), (frees ds b o).length ≤ o.length + cnts ds := by
 refine ind (fun ds h => ?_) (fun d h => ?_)
 ·induction ds with
  | nil => intro b o; simp [frees, cnts]
  | cons x r ih =>
   intro b o
   have h1 := h x (by simp) b o
   have h2 := ih (fun y hy => h y (by simp [hy])) b (free x b o)
   unfold frees cnts; omega
 ·intro b o
  have h1 := freeOne_len d b o
  have h2 := h (b ++ d.params) (freeOne d b o)
  rw [af3, cnt_eq]; omega
def uniq : LI → LI → Bool
 | _, [] => true
 | s, x :: r => inside x 0 99999 && (!s.contains x && uniq (s ++ [x]) r)
def valid (c : PC) : Bool := c.tree && uniq [] (free c [] [] ++ bnds c)
mutual
def subst (x : Int) (s : PC) : PC → PC
 | .mk k n p d ks => if k = 2 ∧ n = x then s else .mk k n p d (substs x s ks)
def substs (x : Int) (s : PC) : List PC → List PC
 | [] => []
 | c :: r => subst x s c :: substs x s r
end
theorem bM (x : Int) (s : PC) : ∀ ds : List PC, substs x s ds = ds.map (subst x s)
 | [] => rfl
 | d :: r => by simp [substs, bM x s r]
theorem kJ (x : Int) (s c : PC) : subst x s c = if c.kind = 2 ∧ c.number = x then s else .mk c.kind c.number c.params c.datum (c.kids.map (subst x s)) := by cases c; rw [← bM]; rfl
theorem subst_nice (x : Int) (s : PC) (hs : s.nice) : (∀ c : PC, c.nice → (subst x s c).nice) ∧ ∀ ds : List PC, nices ds → nices (substs x s ds) := by
 refine ind (fun ds h hd => ?_) (fun d h hd => ?_)
 ·rw [bM]
  exact vY fun y hy => by
   obtain ⟨z, hz, rfl⟩ := List.mem_map.1 hy
   exact h z hz (dZ hd hz)
 ·rw [kJ]
  have hd' := (z4 d).1 hd
  split
  ·exact hs
  ·exact (z4 _).2 ⟨hd'.1, hd'.2.1, by show (d.kids.map _).length ≤ _; rw [List.length_map]; exact hd'.2.2.1, by have := h hd'.2.2.2; rw [bM] at this; exact this⟩
theorem subst_cnt (x : Int) (s : PC) (hs : s.cnt = 0) : (∀ c : PC, (subst x s c).cnt ≤ c.cnt) ∧ ∀ ds : List PC, cnts (substs x s ds) ≤ cnts ds := by
 refine ind (fun ds h => ?_) (fun d h => ?_)
 ·induction ds with
  | nil => exact Nat.le_refl _
  | cons y r ih => have := h y (by simp); have := ih (fun y hy => h y (by simp [hy])); unfold substs cnts; omega
 ·rw [kJ]
  split
  ·omega
  ·rw [bM] at h; rw [cnt_eq d]; exact h
theorem subst_wK (x : Int) (s : PC) : (∀ c : PC, wK (subst x s c) ≤ wK c + (1 + c.cnt) * wK s) ∧ ∀ ds : List PC, wKs (substs x s ds) ≤ wKs ds + cnts ds * wK s := by
 refine ind (fun ds h => ?_) (fun d h => ?_)
 ·induction ds with
  | nil => simp [substs, wKs, cnts]
  | cons y r ih =>
   have h1 := h y (by simp)
   have h2 := ih (fun y hy => h y (by simp [hy]))
   unfold substs wKs cnts
   rw [Nat.add_mul (1 + y.cnt)]; omega
 ·rw [kJ]
  split
  ·rw [Nat.add_mul, Nat.one_mul]; omega
  ·rw [bM] at h
   rw [cL d, cnt_eq d, Nat.add_mul, Nat.one_mul]
   show d.params.length + wD d.datum + wKs (d.kids.map (subst x s)) ≤ _
   omega
end PC
end Go.Abs

namespace Go.Abs
open PC
theorem RF_cntK {c : PC} (h : c.cnt ≤ 1000000000000) : c.cnt < RF := by rw [RF_eq]; omega
theorem P6 {c : PC} {i : Nat} (hi : i < c.kids.length) : (c.kids[i]).cnt < c.cnt := T8 (List.getElem_mem hi)
theorem rO {α β R : Type} {L : (Int × List β → Option R) → Int × List β → Option R} (f : α → β) (F : List β → Option R) (xs : List α) (hn : xs.length ≤ 1048576)
 (step : ∀ go (i : Nat) o (hi : i < xs.length), o.length = i → L go ((i : Int), o) = go ((i : Int) + 1, o ++ [f xs[i]])) (fin : ∀ go o, L go ((xs.length : Int), o) = F o) :
 itr L LF (0, []) = F (xs.map f) := by
 rw [F4 (L := L) xs.length (fun i o => o.length = i) (fun i o => F (o ++ (xs.drop i).map f)) (by omega) (fun go i o hi ho hgo => ?_) (fun go o ho => ?_) (by simp)]
 ·simp
 ·rw [step go i o hi ho, hgo _ (by simp [ho]), List.drop_eq_getElem_cons hi, List.map_cons, List.append_assoc]; rfl
 ·rw [fin]; simp
theorem eI (l : LI) (h : l.length ≤ 1000000000) : cV l = some l := by unfold cV; rw [m8 (by simp; omega)]; rfl
theorem kids_len (c : PC) : c.kids.length ≤ wK c := by
 have h1 := cnts_len c.kids
 have h2 := lL.2 c.kids
 rw [cL]; omega
theorem ak1 {ds : List PC} {i : Nat} (h : i < ds.length) : wKs (ds.drop i) = 1 + wK ds[i] + wKs (ds.drop (i + 1)) := by rw [List.drop_eq_getElem_cons h, wKs]
theorem ac2 {E : PC → LI → Option (LI)} {L : (Int × LI → Option (LI)) → Int × LI → Option (LI)} (c : PC) (out : LI) (hn : c.kids.length ≤ 1048576) (ho : out.length + wKs c.kids ≤ 1000000000)
 (hE : ∀ (i : Nat) (h : i < c.kids.length) (o : LI), o.length + wK c.kids[i] ≤ 1000000000 → E c.kids[i] o = some (o ++ bnds c.kids[i]))
 (hL : ∀ go (i : Int) o, L go (i, o) = if i < (c.kids.length : Int) then bnd (nth c.kids i) fun x => bnd (E x o) fun y => chk (I64 (i + 1)) (go (i + 1, y)) else some o) :
 itr L LF (0, out) = some (out ++ bndsL c.kids) := by
 rw [F4 (L := L) c.kids.length (fun i o => o.length + wKs (c.kids.drop i) ≤ 1000000000) (fun i o => some (o ++ bndsL (c.kids.drop i))) (by omega) (fun go i o hi ho hgo => ?_) (fun go o ho => ?_) (by simpa using ho)]
 ·rw [List.drop_zero]
 ·have hw := ak1 hi
  have hb := ae3.1 c.kids[i]
  rw [hL, if_pos (by omega), t9 hi, g9, hE i hi o (by omega), g9, m8 (by omega), hgo _ (by rw [List.length_append]; omega), List.drop_eq_getElem_cons hi, bndsL, List.append_assoc]
 ·rw [hL, if_neg (by omega), List.drop_length]; simp [bndsL]
theorem uJ : ∀ (n : Nat) (c : PC) (out : LI), c.cnt < n → c.nice → out.length + wK c ≤ 1000000000 → C4 n c out = some (out ++ bnds c)
 | 0, d, _, h, _, _ => by omega
 | n + 1, c, out, h, hc, ho => by
  show dL (C4 n) c out = _
  unfold dL
  have hc' := (z4 c).1 hc
  have hw := cL c
  rw [m8 (by omega), ac2 (L := lQ (C4 n) c) (E := C4 n) c (out ++ c.params) hc'.2.2.1 (by rw [List.length_append]; omega) (fun i hi o ho => uJ n _ o (by have := P6 hi; omega) (A4 hc (List.getElem_mem hi)) ho) (fun go i o => rfl), bnds_eq, List.append_assoc]
theorem uU : ∀ (n : Nat) (c : PC) (out : LI), c.cnt < n → c.nice → out.length + wK c ≤ 1000000000 → C7 n c out = some (out ++ bnds c)
 | 0, d, _, h, _, _ => by omega
 | n + 1, c, out, h, hc, ho => by
  show eK (C7 n) c out = _
  unfold eK
  have hc' := (z4 c).1 hc
  have hw := cL c
  rw [m8 (by omega), ac2 (L := mO (C7 n) c) (E := C7 n) c (out ++ c.params) hc'.2.2.1 (by rw [List.length_append]; omega) (fun i hi o ho => uU n _ o (by have := P6 hi; omega) (A4 hc (List.getElem_mem hi)) ho) (fun go i o => rfl), bnds_eq, List.append_assoc]
theorem oM (c : PC) (h : c.nice) (hw : wK c ≤ 1048576) : Q4 c = some (bnds c) := by
 unfold Q4
 rw [uJ RF c [] (RF_cntK (by have := lL.1 c; omega)) h (by simp; omega), g9, List.nil_append]
theorem scope_loop {L : (Int → Option Bool) → Int → Option Bool} (l : LI) (x : Int) (h : l.length ≤ 1000000000000) (hL : ∀ go (i : Int), L go i = if i < (l.length : Int) then bnd (nth l i) fun y => if y = x then some true else chk (I64 (i + 1)) (go (i + 1)) else some false) : itr L LF 0 = some (l.contains x) := by
 rw [dW (L := L) l.length (fun i => some ((l.drop i).contains x)) (by omega) (fun go i hi hgo => ?_) (fun go => ?_)]
 ·rw [List.drop_zero]
 ·rw [hL, if_pos (by omega), t9 hi, g9, m8 (by omega), hgo, List.drop_eq_getElem_cons hi, List.contains_cons]
  by_cases hx : l[i] = x
  ·simp [hx]
  ·have : ¬ x = l[i] := fun h => hx h.symm
   simp [hx, this]
 ·rw [hL, if_neg (by omega), List.drop_length]; rfl
theorem I9 (l : LI) (x : Int) (h : l.length ≤ 1000000000000) : G4 l x = some (l.contains x) := scope_loop l x h fun go i => rfl
theorem mW (c : PC) : cE c = some (named c) := by
 unfold cE named
 by_cases h : c.kind = 2 <;> simp [h]
theorem ac9 {E : PC → LI → LI → Option (LI)} {L : (Int × LI → Option (LI)) → Int × LI → Option (LI)} (c : PC) (b out : LI) (hn : c.kids.length ≤ 1048576) (ho : out.length + cnts c.kids ≤ 1000000000)
 (hE : ∀ (i : Nat) (h : i < c.kids.length) (o : LI), o.length + 1 + cnt c.kids[i] ≤ 1000000000 → E c.kids[i] b o = some (free c.kids[i] b o))
 (hL : ∀ go (i : Int) o, L go (i, o) = if i < (c.kids.length : Int) then bnd (nth c.kids i) fun x => bnd (E x b o) fun y => chk (I64 (i + 1)) (go (i + 1, y)) else some o) :
 itr L LF (0, out) = some (frees c.kids b out) := by
 rw [F4 (L := L) c.kids.length (fun i o => o.length + cnts (c.kids.drop i) ≤ 1000000000) (fun i o => some (frees (c.kids.drop i) b o)) (by omega) (fun go i o hi ho hgo => ?_) (fun go o ho => ?_) (by simpa using ho)]
 ·rw [List.drop_zero]
 ·rw [List.drop_eq_getElem_cons hi, cnts] at ho
  have hb := vU.1 c.kids[i] b o
  rw [hL, if_pos (by omega), t9 hi, g9, hE i hi o (by omega), g9, m8 (by omega), hgo _ (by omega), List.drop_eq_getElem_cons hi, frees]
 ·rw [hL, if_neg (by omega), List.drop_length]; simp [frees]
theorem zF : ∀ (n : Nat) (c : PC) (b out : LI), c.cnt < n → c.nice → b.length + wK c ≤ 1000000000 → out.length + 1 + cnt c ≤ 1000000000 → w6 n c b out = some (free c b out)
 | 0, d, _, _, h, _, _, _ => by omega
 | n + 1, c, b, out, h, hc, hb, ho => by
  show iF (w6 n) c b out = _
  unfold iF
  have hc' := (z4 c).1 hc
  have hw := cL c
  have hcc := cnt_eq c
  have hJ2 : ∀ o : LI, o.length + cnt c ≤ 1000000000 → Z3 (w6 n) c b o = some (frees c.kids (b ++ c.params) o) := fun o ho => by
   unfold Z3
   rw [eI _ (by omega), g9, m8 (by omega), ac9 (L := pU (w6 n) c b) (E := w6 n) c (b ++ c.params) o hc'.2.2.1 (by omega) (fun i hi o ho => zF n _ _ o (by have := P6 hi; omega) (A4 hc (List.getElem_mem hi)) (by have := kM (List.getElem_mem hi); rw [List.length_append]; omega) ho) (fun go i o => rfl)]
  have hJ1 : ∀ x, V6 (w6 n) c b out x = some (frees c.kids (b ++ c.params) (if x = true then out ++ [c.number] else out)) := fun x => by
   unfold V6
   cases x
   ·exact hJ2 out (by omega)
   ·rw [if_pos rfl, if_pos rfl, m8 (by simp; omega)]
    exact hJ2 _ (by simp; omega)
  rw [mW, g9, I9 _ _ (by omega), I9 _ _ (by omega), g9, g9]
  simp only [hJ1]
  rw [af3]
  unfold freeOne
  cases named c <;> cases b.contains c.number <;> cases out.contains c.number <;> rfl
theorem fT (c : PC) (hc : c.nice) (hb : wK c ≤ 40000000) : D6 c = some (free c [] []) := by
 unfold D6 sB
 have hc' := (z4 c).1 hc
 have hw := cL c
 have hcc := cnt_eq c
 have hcw := lL.1 c
 have hJ2 : ∀ o : LI, o.length ≤ 1 → V5 c [] o = some (frees c.kids ([] ++ c.params) o) := fun o ho => by
  unfold V5
  rw [eI _ (by simp), g9, m8 (by simp; omega), ac9 (L := mU c []) (E := w6 RF) c ([] ++ c.params) o hc'.2.2.1 (by omega) (fun i hi o ho => zF RF _ _ o (RF_cntK (by have := P6 hi; omega)) (A4 hc (List.getElem_mem hi)) (by have := kM (List.getElem_mem hi); rw [List.length_append]; simp; omega) ho) (fun go i o => rfl)]
 have hJ1 : ∀ x, O7 c [] [] x = some (frees c.kids ([] ++ c.params) (if x = true then [] ++ [c.number] else [])) := fun x => by
  unfold O7
  cases x
  ·exact hJ2 [] (by simp)
  ·rw [if_pos rfl, if_pos rfl, m8 (by simp)]
   exact hJ2 _ (by simp)
 rw [mW, g9, I9 _ _ (by simp), g9]
 simp only [hJ1]
 rw [af3]
 unfold freeOne
 cases named c <;> rfl
theorem ai8 (l : LI) (h : l.length ≤ 1000000000000) : iI l = some (uniq [] l) := by
 unfold iI
 rw [dW (L := kE l) l.length (fun i => some (uniq (l.take i) (l.drop i))) (by omega) (fun go i hi hgo => ?_) (fun go => ?_)]
 ·rfl
 ·show M8 l go i = _
  unfold M8
  rw [if_pos (by omega), t9 hi, g9, U9, g9, m8 (by omega), I9 _ _ (by rw [List.length_take]; omega), g9, m8 (by omega), hgo, Int.toNat_natCast, List.drop_eq_getElem_cons hi, uniq, List.take_add_one, List.getElem?_eq_getElem hi]
  cases inside l[i] 0 99999 <;> cases (l.take i).contains l[i] <;> rfl
 ·show M8 l go _ = _
  unfold M8
  rw [if_neg (by omega), List.drop_length]; simp [uniq]
theorem ite2 {p : Prop} [Decidable p] {a b : Option Bool} {x y : Bool} (h1 : p → a = some x) (h2 : ¬p → b = some y) : (if p then a else b) = some (if p then x else y) := by
 by_cases h : p
 ·rw [if_pos h, if_pos h, h1 h]
 ·rw [if_neg h, if_neg h, h2 h]
theorem toZero : PD.mk 0 0 ([] : LB) [] = zeroDat := rfl
theorem s_l5Shape_eq (c : PC) (h : c.nice) : mY c = some (shapeOK c) := by
 have hp : bnd o4 (fun x3 => chk (I64 ((x3.length : Int) - 1)) <| bnd (aW c.number 0 ((x3.length : Int) - 1)) fun x4 => some x4) = some (inside c.number 0 13) := by
  unfold o4
  rw [g9, m8 (by simp; omega), U9, g9]; rfl
 have hJ : ∀ b, E5 c b = some (!b && (if c.kind = 1 then decide ((c.params.length : Int) = 0) && (decide ((c.kids.length : Int) = 0) && c.datum.valid)
 else if c.kind = 2 then decide ((c.params.length : Int) = 0) && decide ((c.kids.length : Int) = 0)
 else if c.kind = 3 then decide ((c.params.length : Int) = 0) && (decide ((c.kids.length : Int) = 0) && inside c.number 0 13)
 else if c.kind = 4 then decide ((c.params.length : Int) = 0) && decide ((c.kids.length : Int) = 1)
 else if c.kind = 5 then decide ((c.params.length : Int) ≤ 8) && decide ((c.kids.length : Int) = 1)
 else if c.kind = 6 then decide ((c.params.length : Int) = 0) && inside (c.kids.length : Int) 1 9
 else if c.kind = 7 then decide ((c.params.length : Int) = 0) && decide ((c.kids.length : Int) = 3)
 else if c.kind = 8 then decide ((c.params.length : Int) = 0) && inside (c.kids.length : Int) 2 60
 else if c.kind = 9 then inside (c.params.length : Int) 1 60 && inside (c.kids.length : Int) 1 60
 else if c.kind = 10 then decide ((c.params.length : Int) = 0) && decide ((c.kids.length : Int) = 1)
 else if c.kind = 11 then decide ((c.params.length : Int) = 1) && decide ((c.kids.length : Int) = 1)
 else false)) := fun b => by
  unfold E5
  rw [hp, s_IsDatum_eq _ (G2 h), U9, U9, U9, U9]
  simp only [g9]
  generalize inside (c.kids.length : Int) 1 9 = y1
  generalize inside (c.kids.length : Int) 2 60 = y2
  generalize inside (c.kids.length : Int) 1 60 = y3
  generalize inside (c.params.length : Int) 1 60 = y4
  generalize inside c.number 0 13 = y5
  generalize c.datum.valid = y6
  cases b
  ·rw [if_neg (by simp), Bool.not_false, Bool.true_and]
   iterate 11 (refine ite2 (fun _ => ?_) fun _ => ?_; rotate_left)
   all_goals (repeat' split) <;> simp_all
  ·rfl
 unfold mY shapeOK
 rw [oI RF _ _ (RF_cnt (G2 h)) (G2 h), mW, toZero]
 simp only [g9, hJ]
 generalize (if c.kind = 1 then decide ((c.params.length : Int) = 0) && (decide ((c.kids.length : Int) = 0) && c.datum.valid) else _) = z
 generalize PD.eqb c.datum zeroDat = w
 generalize named c = y
 by_cases h1 : c.kind = 1 <;> by_cases h2 : c.number = 0 <;> cases w <;> cases y <;> simp [h1, h2]
theorem sZ (c : PC) (hn : c.kids.length ≤ 1048576) : itr (bP c) LF 0 = some (c.kids.all fun x => !decide (x.kind = 8)) := by
 rw [yA (L := bP c) c.kids (fun x => !decide (x.kind = 8)) (some true) (some false) (by omega) (fun go i hi => ?_) (fun go => ?_)]
 ·cases c.kids.all fun x => !decide (x.kind = 8) <;> rfl
 ·show J8 c go i = _
  unfold J8
  rw [if_pos (by omega), t9 hi, g9, m8 (by omega)]
  by_cases h : c.kids[i].kind = 8 <;> simp [h]
 ·show J8 c go _ = _
  unfold J8
  rw [if_neg (by omega)]
theorem zZ (c : PC) (h : c.nice) : dO c = some (shapeOK c && seqOK c) := by
 have hc' := (z4 c).1 h
 have hp : bnd v9 (fun x4 => some (decide (c.number < (x4.length : Int)))) = some (decide (c.number ≤ 13)) := by
  unfold v9
  rw [g9]
  show some (decide (c.number < (14 : Int))) = _
  congr 1
  exact decide_eq_decide.2 (by omega)
 have hJ : ∀ b, C5 c b = some (if c.kind = 1 then !b && (decide ((c.params.length : Int) = 0) && (decide ((c.kids.length : Int) = 0) && c.datum.valid))
 else if c.kind = 2 then !b && (decide ((c.params.length : Int) = 0) && decide ((c.kids.length : Int) = 0))
 else if c.kind = 3 then !b && (decide ((c.params.length : Int) = 0) && (decide ((c.kids.length : Int) = 0) && inside c.number 0 13))
 else if c.kind = 4 then !b && (decide ((c.params.length : Int) = 0) && decide ((c.kids.length : Int) = 1))
 else if c.kind = 5 then !b && (decide ((c.params.length : Int) ≤ 8) && decide ((c.kids.length : Int) = 1))
 else if c.kind = 6 then !b && (decide ((c.params.length : Int) = 0) && inside (c.kids.length : Int) 1 9)
 else if c.kind = 7 then !b && (decide ((c.params.length : Int) = 0) && decide ((c.kids.length : Int) = 3))
 else if c.kind = 8 then !b && ((decide ((c.params.length : Int) = 0) && inside (c.kids.length : Int) 2 60) && c.kids.all fun x => !decide (x.kind = 8))
 else if c.kind = 9 then !b && (inside (c.params.length : Int) 1 60 && inside (c.kids.length : Int) 1 60)
 else if c.kind = 10 then !b && (decide ((c.params.length : Int) = 0) && decide ((c.kids.length : Int) = 1))
 else if c.kind = 11 then !b && (decide ((c.params.length : Int) = 1) && decide ((c.kids.length : Int) = 1))
 else false) := fun b => by
  unfold C5
  rw [hp, i_IsDatum_eq _ (G2 h), sZ c hc'.2.2.1]
  simp only [g9]
  generalize (c.kids.all fun x => !decide (x.kind = 8)) = y5
  generalize c.datum.valid = y6
  unfold inside
  cases b
  ·rw [if_neg (by simp)]
   iterate 11 (refine ite2 (fun _ => ?_) fun _ => ?_; rotate_left)
   all_goals (repeat' split) <;> simp_all <;> omega
  ·rw [if_pos rfl]
   simp only [Bool.not_true, Bool.false_and, ite_self]
 have hJ1 : ∀ b, M4 c b = (if b = true then some false else C5 c (!(decide (c.number = 0) || (named c || decide (c.kind = 3))))) := fun b => by
  unfold M4 named
  cases b
  ·by_cases h1 : c.number = 0 <;> by_cases h2 : c.kind = 2 <;> by_cases h3 : c.kind = 3 <;> by_cases h4 : c.kind = 4 <;> simp [h1, h2, h3, h4]
  ·rfl
 have hx : ∀ w, (!decide (c.kind = 1) && !w) = false → C5 c (!(decide (c.number = 0) || (named c || decide (c.kind = 3)))) = some (((decide (c.kind = 1) || w) && ((decide (c.number = 0) || (named c || decide (c.kind = 3))) &&
 (if c.kind = 1 then decide ((c.params.length : Int) = 0) && (decide ((c.kids.length : Int) = 0) && c.datum.valid)
 else if c.kind = 2 then decide ((c.params.length : Int) = 0) && decide ((c.kids.length : Int) = 0)
 else if c.kind = 3 then decide ((c.params.length : Int) = 0) && (decide ((c.kids.length : Int) = 0) && inside c.number 0 13)
 else if c.kind = 4 then decide ((c.params.length : Int) = 0) && decide ((c.kids.length : Int) = 1)
 else if c.kind = 5 then decide ((c.params.length : Int) ≤ 8) && decide ((c.kids.length : Int) = 1)
 else if c.kind = 6 then decide ((c.params.length : Int) = 0) && inside (c.kids.length : Int) 1 9
 else if c.kind = 7 then decide ((c.params.length : Int) = 0) && decide ((c.kids.length : Int) = 3)
 else if c.kind = 8 then decide ((c.params.length : Int) = 0) && inside (c.kids.length : Int) 2 60
 else if c.kind = 9 then inside (c.params.length : Int) 1 60 && inside (c.kids.length : Int) 1 60
 else if c.kind = 10 then decide ((c.params.length : Int) = 0) && decide ((c.kids.length : Int) = 1)
 else if c.kind = 11 then decide ((c.params.length : Int) = 1) && decide ((c.kids.length : Int) = 1)
 else false))) && seqOK c) := fun w hw => by
  have hw' : (decide (c.kind = 1) || w) = true := by
   revert hw; clear hJ hJ1 hp
   generalize decide (c.kind = 1) = q
   cases w <;> cases q <;> simp
  rw [hJ, hw', Bool.not_not, Bool.true_and]
  unfold seqOK
  generalize (decide (c.number = 0) || (named c || decide (c.kind = 3))) = u
  generalize (c.kids.all fun x => !decide (x.kind = 8)) = y5
  congr 1
  by_cases h8 : c.kind = 8
  ·have n1 : ¬ c.kind = 1 := by omega
   have n2 : ¬ c.kind = 2 := by omega
   have n3 : ¬ c.kind = 3 := by omega
   have n4 : ¬ c.kind = 4 := by omega
   have n5 : ¬ c.kind = 5 := by omega
   have n6 : ¬ c.kind = 6 := by omega
   have n7 : ¬ c.kind = 7 := by omega
   rw [if_neg n1, if_neg n2, if_neg n3, if_neg n4, if_neg n5, if_neg n6, if_neg n7, if_pos h8, if_neg n1, if_neg n2, if_neg n3, if_neg n4, if_neg n5, if_neg n6, if_neg n7, if_pos h8, decide_eq_true h8, Bool.not_true, Bool.false_or]
   simp only [Bool.and_assoc]
  ·rw [if_neg h8, if_neg h8, decide_eq_false h8, Bool.not_false, Bool.true_or, Bool.and_true]
   cases u
   ·simp only [Bool.false_and, ite_self]
   ·simp only [Bool.true_and]
 unfold dO shapeOK
 rw [oB RF _ _ (RF_cnt (G2 h)) (G2 h), toZero]
 simp only [g9, hJ1]
 by_cases h1 : c.kind = 1
 ·rw [if_pos h1, if_neg (by simp)]
  exact hx (PD.eqb c.datum zeroDat) (by simp [h1])
 ·rw [if_neg h1]
  cases hw : PD.eqb c.datum zeroDat
  ·simp [h1]
  ·rw [if_neg (by simp)]
   exact hx true (by simp)
theorem oD : ∀ (n : Nat) (c : PC) (deep nodes : Int), c.cnt < n → c.nice → 0 ≤ deep → deep ≤ 151 → 0 ≤ nodes → nodes ≤ 3000 → v6 n c deep nodes = some (meas c deep nodes)
 | 0, d, _, _, h, _, _, _, _, _ => by omega
 | n + 1, d, deep, nodes, h, hd, h1, h2, h3, h4 => by
  show aJ (v6 n) d deep nodes = _
  unfold aJ
  rw [meas_eq, m8 (by omega)]
  by_cases h5 : deep > 150
  ·rw [if_pos h5, if_pos (.inl h5)]
  ·rw [if_neg h5]
   by_cases h6 : nodes + 1 > 3000
   ·rw [if_pos h6, if_pos (.inr (.inl h6))]
   ·rw [if_neg h6, zZ d hd, g9]
    cases h7 : shapeOK d && seqOK d
    ·simp
    ·rw [if_pos rfl, if_neg (by simp; omega)]
     have hs := ((z4 d).1 hd).2.2.1
     rw [F4 (L := gJ (v6 n) d deep) d.kids.length (fun i a => 0 ≤ a ∧ a ≤ 3000) (fun i a => some (measL (d.kids.drop i) (deep + 1) a)) (by omega) (fun go i a hi ha hgo => ?_) (fun go a ha => ?_) (by omega)]
     ·rfl
     ·show J7 (v6 n) d deep go i a = _
      unfold J7
      rw [if_pos (by omega), t9 hi, g9, m8 (by omega), oD n _ _ _ (by have := P6 hi; omega) (A4 hd (List.getElem_mem hi)) (by omega) (by omega) ha.1 ha.2, g9]
      rw [List.drop_eq_getElem_cons hi, measL]
      by_cases h8 : (meas d.kids[i] (deep + 1) a).1 = true
      ·rw [if_pos h8, if_pos h8, m8 (by omega), hgo]
       have := (lW.1 d.kids[i] (deep + 1) a)
       have h9 := this.1.1 h8
       have h10 := this.2 h8
       omega
      ·rw [if_neg h8, if_neg h8]
     ·show J7 (v6 n) d deep go _ a = _
      unfold J7
      rw [if_neg (by omega), List.drop_length]; rfl
theorem s_l5Few_eq (n : Nat) : ∀ (d : PC) (left : Int), d.cnt < n → d.nice → 0 ≤ left → left ≤ 3000 → F3 n d left = some (decide (0 ≤ few d left), few d left) := by
 induction n with
 | zero => intro d _ h; omega
 | succ n ih =>
  intro d left h hd h1 h2
  show mT (F3 n) d left = _
  unfold mT
  rw [few_eq, m8 (by omega)]
  have hs := ((z4 d).1 hd).2.2.1
  rw [F4 (L := tV (F3 n) d) d.kids.length (fun i a => -1 ≤ a ∧ a ≤ 3000) (fun i a => some (decide (0 ≤ fews (d.kids.drop i) a), fews (d.kids.drop i) a)) (by omega) (fun go i a hi ha hgo => ?_) (fun go a ha => ?_) (by omega)]
  ·rw [List.drop_zero]
  ·show Z2 (F3 n) d go i a = _
   unfold Z2 bF
   rw [if_pos (by omega), List.drop_eq_getElem_cons hi, fews]
   by_cases h0 : 0 ≤ a
   ·rw [if_pos (by simpa using h0), if_pos h0, t9 hi]
    rw [g9]
    rw [ih _ _ (by have := P6 hi; omega) (A4 hd (List.getElem_mem hi)) h0 ha.2]
    rw [g9]
    have := (qW.1 d.kids[i] a h0).1
    generalize few d.kids[i] a = z at this ⊢
    rw [m8 (by omega), hgo _ (by omega)]
   ·rw [if_neg (by simpa using h0), if_neg h0]
  ·show Z2 (F3 n) d go _ a = _
   unfold Z2 bF
   rw [if_neg (by omega), List.drop_length]
   simp only [fews, Bool.false_eq_true, if_false]
   rfl
theorem vK (n : Nat) : ∀ (d : PC), d.cnt < n → d.nice → d.cnt ≤ 1048576 → s6 n d = some d.depth := by
 induction n with
 | zero => intro d h; omega
 | succ n ih =>
  intro d h hd hc
  show U6 (s6 n) d = _
  unfold U6
  have hs := ((z4 d).1 hd).2.2.1
  have hmax : ∀ x ∈ d.kids, 0 ≤ x.depth ∧ x.depth ≤ 1048577 := fun x hx => by
   have h1 := qS.1 x
   have h2 := T8 hx
   omega
  rw [ag2 (L := cS (s6 n) d) d.kids.length (fun i a => 0 ≤ a ∧ a ≤ 1048577) (fun i a => some (max a (depths (d.kids.drop i)) + 1)) (by omega) (fun go i a hi ha hgo => ?_) (fun go a ha => ?_) (by omega)]
  ·rw [qT, List.drop_zero]
   have := D1 d.kids
   rw [Int.max_eq_right this]
  ·show E9 (s6 n) d go a i = _
   unfold E9
   have hx := hmax _ (List.getElem_mem hi)
   rw [if_pos (by omega), t9 hi]
   rw [g9]
   rw [ih _ (by have := P6 hi; omega) (A4 hd (List.getElem_mem hi)) (by have := P6 hi; omega)]
   rw [g9]
   rw [List.drop_eq_getElem_cons hi, depths]
   generalize depth d.kids[i] = z at hx ⊢
   rw [m8 (by omega), hgo _ (by omega), Int.max_assoc]
  ·show E9 (s6 n) d go a _ = _
   unfold E9
   rw [if_neg (by omega), List.drop_length, m8 (by omega)]
   simp only [depths]
   rw [Int.max_eq_left ha.1]
theorem uX : ∀ (n : Nat) (d : PC), d.cnt < n → d.nice → B6 n d = some d.okAll
 | 0, d, h, _ => by omega
 | n + 1, d, h, hd => by
  show eO (B6 n) d = _
  unfold eO
  have hs := ((z4 d).1 hd).2.2.1
  rw [okAll_eq, dW (L := mX (B6 n) d) d.kids.length (fun i => some (okAlls (d.kids.drop i) && ((!decide (d.kind = 8) || (d.kids.drop i).all fun x => !decide (x.kind = 8)) && shapeOK d))) (by omega) (fun go i hi hgo => ?_) (fun go => ?_)]
  ·rw [List.drop_zero]
   unfold seqOK
   generalize okAlls d.kids = a
   generalize shapeOK d = b
   generalize (!decide (d.kind = 8) || d.kids.all fun x => !decide (x.kind = 8)) = e
   cases a <;> cases b <;> cases e <;> rfl
  ·show Q1 (B6 n) d go i = _
   unfold Q1 V7
   rw [if_pos (by omega), t9 hi, g9]
   rw [uX n _ (by have := P6 hi; omega) (A4 hd (List.getElem_mem hi)), g9]
   rw [m8 (by omega), hgo, List.drop_eq_getElem_cons hi, okAlls, List.all_cons]
   by_cases h8 : d.kind = 8 <;> by_cases h9 : d.kids[i].kind = 8 <;> cases okAll d.kids[i] <;> simp [h8, h9]
  ·show Q1 (B6 n) d go _ = _
   unfold Q1
   rw [if_neg (by omega), List.drop_length, s_l5Shape_eq _ hd]
   simp [okAlls]
end Go.Abs

namespace Go.Abs
open PC
theorem mget_nil {α : Type} [DecidableEq α] (x : α) : mget ([] : List (α × Int)) x = 0 := rfl
theorem ad2 {α β : Type} [DecidableEq α] (k x : α) (v : β) : ∀ m : List (α × β), mlook (mput m k v) x = if x = k then some v else mlook m x
 | [] => by unfold mput mlook; rfl
 | p :: r => by
  unfold mput
  by_cases h : k = p.1
  ·rw [if_pos h]
   unfold mlook
   by_cases h2 : x = k
   ·rw [if_pos h2, if_pos h2]
   ·rw [if_neg h2, if_neg h2, if_neg (by rw [← h]; exact h2)]
  ·rw [if_neg h]
   unfold mlook
   by_cases h2 : x = p.1
   ·rw [if_pos h2, if_neg (by rw [h2]; exact fun e => h e.symm), if_pos h2]
   ·rw [if_neg h2, if_neg h2, ad2 k x v r]
theorem yI {α : Type} [DecidableEq α] (m : List (α × Int)) (k x : α) (v : Int) : mget (mput m k v) x = if x = k then v else mget m x := by
 unfold mget; rw [ad2]; split <;> rfl
def holds (m : MI) (s : LI) : Prop := ∀ x, mget m x = if s.contains x = true then 1 else 0
theorem xF : holds [] [] := fun x => rfl
theorem holds_put {m : MI} {s : LI} (h : holds m s) (y : Int) : holds (mput m y 1) (s ++ [y]) := fun x => by
 rw [yI, h x]
 by_cases e : x = y <;> by_cases e2 : s.contains x = true <;> simp_all
theorem holds_1 {m : MI} {s : LI} (h : holds m s) (y : Int) : (mget m y = 1) = (s.contains y = true) := by
 rw [h y]; split <;> simp_all
theorem holds_0 {m : MI} {s : LI} (h : holds m s) (y : Int) : (mget m y = 0) = (s.contains y = false) := by
 rw [h y]; split <;> simp_all
def difM : MI → LI → Option (MI)
 | m, [] => some m
 | m, x :: r => if inside x 0 99999 = true ∧ ¬ mget m x = 1 then difM (mput m x 1) r else none
def difL : MI → List (LI) → Bool
 | _, [] => true
 | m, l :: r => match difM m l with | none => false | some m2 => difL m2 r
theorem wX : ∀ (l t s : LI) (m : MI), holds m s → (difM m l = none → uniq s (l ++ t) = false) ∧ ∀ m2, difM m l = some m2 → holds m2 (s ++ l) ∧ uniq s (l ++ t) = uniq (s ++ l) t
 | [], t, s, m, h => ⟨fun h => by simp [difM] at h, fun m2 e => by
  have : m = m2 := Option.some.inj e
  subst this
  rw [List.append_nil]; exact ⟨h, rfl⟩⟩
 | x :: r, t, s, m, h => by
  have ih := wX r t (s ++ [x]) (mput m x 1) (holds_put h x)
  unfold difM
  rw [List.cons_append, uniq]
  have h1 := holds_1 h x
  by_cases hx : inside x 0 99999 = true ∧ ¬ mget m x = 1
  ·rw [if_pos hx]
   have h2 : s.contains x = false := by
    have := hx.2
    rw [h1] at this; simpa using this
   rw [hx.1, h2]
   have e : s ++ x :: r = s ++ [x] ++ r := by simp
   rw [e]
   exact ih
  ·rw [if_neg hx]
   refine ⟨fun _ => ?_, fun m2 e => by cases e⟩
   cases hi : inside x 0 99999
   ·rfl
   ·have : mget m x = 1 := Classical.byContradiction fun h3 => hx ⟨hi, h3⟩
    rw [h1] at this
    rw [this]; rfl
theorem i_dif_L2_eq (x2 : Int) (hx2 : 0 ≤ x2 ∧ x2 ≤ 100) (go4 : (Int × (MI)) → Option Bool) (l : LI) (hl : l.length ≤ 1000000000000) (m : MI) : itr (I8 x2 go4 l) LF (0, m) = match difM m l with | none => some false | some m2 => go4 (x2 + 1, m2) := by
 rw [F4 (L := I8 x2 go4 l) l.length (fun _ _ => True) (fun i m => match difM m (l.drop i) with | none => some false | some m2 => go4 (x2 + 1, m2)) (by omega) (fun go i m hi _ hgo => ?_) (fun go m _ => ?_) trivial]
 ·rw [List.drop_zero]
 ·show z7 x2 go4 l go i m = _
  unfold z7
  rw [if_pos (by omega), t9 hi, g9, m8 (by omega), hgo _ trivial, List.drop_eq_getElem_cons hi, difM]
  unfold inside
  by_cases h1 : l[i] < 0
  ·rw [if_pos h1, if_neg (by simp; omega)]
  ·rw [if_neg h1]
   by_cases h2 : l[i] > 99999
   ·rw [if_pos h2, if_neg (by simp; omega)]
   ·rw [if_neg h2]
    by_cases h3 : mget m l[i] = 1
    ·rw [if_pos h3, if_neg (by simp [h3])]
    ·rw [if_neg h3, if_pos (by simp [h3]; omega)]
 ·show z7 x2 go4 l go _ m = _
  unfold z7
  rw [if_neg (by omega), List.drop_length, m8 (by omega)]; rfl
theorem jI (a b : LI) (ha : a.length ≤ 1000000000000) (hb : b.length ≤ 1000000000000) : I4 [a, b] = some (uniq [] (a ++ b)) := by
 unfold I4
 have h : itr (I7 [a, b]) LF (0, []) = some (difL [] [a, b]) := by
  rw [F4 (L := I7 [a, b]) 2 (fun _ _ => True) (fun i m => some (difL m ([a, b].drop i))) (by omega) (fun go i m hi _ hgo => ?_) (fun go m _ => ?_) trivial]
  ·rfl
  ·show C9 [a, b] go i m = _
   unfold C9
   have hi' : i < [a, b].length := hi
   have hle : ([a, b][i]).length ≤ 1000000000000 := by
    have := List.getElem_mem hi'
    simp only [List.mem_cons, List.not_mem_nil, or_false] at this
    rcases this with h | h <;> rw [h] <;> assumption
   rw [if_pos (by simp; omega), t9 hi', g9, i_dif_L2_eq i (by omega) go _ hle m, List.drop_eq_getElem_cons hi', difL]
   cases difM m [a, b][i] with
   | none => rfl
   | some m2 => exact hgo m2 trivial
  ·rfl
 rw [h]
 congr 1
 unfold difL
 have h1 := wX a b [] [] xF
 cases e : difM [] a with
 | none => rw [h1.1 e]
 | some m2 =>
  have h2 := h1.2 m2 e
  rw [h2.2]
  show difL m2 [b] = _
  unfold difL
  have h3 := wX b [] ([] ++ a) m2 h2.1
  rw [List.append_nil] at h3
  cases e2 : difM m2 b with
  | none => rw [h3.1 e2]
  | some m3 => rw [(h3.2 m3 e2).2]; rfl
theorem yB {A R : Type} {L : (Int × A → Option R) → Int × A → Option R} (n : Nat) (I : Nat → A → Prop) (Q : R → Prop) (hn : n ≤ 9223372036854775807)
 (step : ∀ go (i : Nat) a, i < n → I i a → (∀ a', I (i + 1) a' → ∃ r, go ((i : Int) + 1, a') = some r ∧ Q r) → ∃ r, L go ((i : Int), a) = some r ∧ Q r) (fin : ∀ go a, I n a → ∃ r, L go ((n : Int), a) = some r ∧ Q r) {a : A} (h0 : I 0 a) : ∃ r, itr L LF (0, a) = some r ∧ Q r := by
 refine itr_exLF Q (fun v : Int × A => (0 ≤ v.1 ∧ v.1 ≤ n) ∧ I v.1.toNat v.2) (fun v : Int × A => n - v.1.toNat) (fun go v hv hgo => ?_) (0, a) ⟨⟨by omega, by omega⟩, h0⟩ (by simp; omega)
 obtain ⟨v1, v2⟩ := v
 obtain ⟨i, rfl⟩ := Int.eq_ofNat_of_zero_le hv.1.1
 show ∃ r, L go ((i : Int), v2) = some r ∧ Q r
 have h1 : (i : Int) ≤ n := hv.1.2
 by_cases h : i < n
 ·exact step go i v2 h hv.2 fun a' ha => hgo ((i : Int) + 1, a') ⟨⟨by show 0 ≤ (i : Int) + 1; omega, by show (i : Int) + 1 ≤ n; omega⟩, ha⟩ (by show n - ((i : Int) + 1).toNat < n - (i : Int).toNat; omega)
 ·have : i = n := by omega
  subst this; exact fin go v2 hv.2
def cntm (m : MI) (B : LI) : Prop := ∀ x, mget m x = (B.count x : Int)
theorem cntm_nil : cntm [] [] := fun x => rfl
theorem cntm_up {m : MI} {B : LI} (h : cntm m B) (y : Int) : cntm (mput m y (mget m y + 1)) (B ++ [y]) := fun x => by
 rw [yI, List.count_append]
 have h1 := h x
 have h2 := h y
 by_cases e : x = y
 ·subst e; rw [if_pos rfl, h2]; simp
 ·rw [if_neg e, h1]
  have : List.count x [y] = 0 := List.count_eq_zero.2 (by simp [e])
  omega
theorem cntm_dn {m : MI} {B r : LI} {y : Int} (h : cntm m (B ++ y :: r)) : cntm (mput m y (mget m y - 1)) (B ++ r) := fun x => by
 have h1 := h x
 have h2 := h y
 rw [List.count_append, List.count_cons] at h1 h2
 rw [yI, List.count_append]
 by_cases e : x = y
 ·subst e; rw [if_pos rfl, h2]; simp only [beq_self_eq_true, if_true]; omega
 ·rw [if_neg e, h1, if_neg (by simp; exact fun h => e h.symm)]; omega
theorem cntm_le {m : MI} {B : LI} (h : cntm m B) (y : Int) : 0 ≤ mget m y ∧ mget m y ≤ B.length := by
 rw [h y]; have := List.count_le_length (a := y) (l := B); omega
theorem cntm_0 {m : MI} {B : LI} (h : cntm m B) (y : Int) : decide (mget m y = 0) = !B.contains y := by
 rw [h y]
 have h1 := List.count_eq_zero (a := y) (l := B)
 by_cases h2 : y ∈ B
 ·have h3 : ¬ B.count y = 0 := fun h => h1.1 h h2
  have h4 : B.contains y = true := by simpa using h2
  rw [h4]; simp; omega
 ·have h3 := h1.2 h2
  have h4 : B.contains y = false := by simpa using h2
  rw [h4, h3]; rfl
def seenOK (s : Option (MI)) (l : LI) : Prop := holds (s.getD []) l
theorem G0 {l : LI} {s : Option (MI)} (h : seenOK s l) (hl : l.length ≤ 1000000000000) (x : Int) : ∃ s2, D3 l s x = some (if l.contains x = true then l else l ++ [x], s2) ∧ seenOK s2 (if l.contains x = true then l else l ++ [x]) := by
 have hJ : D3 l s x = D4 l x (s.getD []) := by
  unfold D3
  cases s with
  | none => rw [if_pos rfl]; rfl
  | some m => rw [if_neg (by simp)]; rfl
 rw [hJ]
 unfold D4
 have h0 := holds_0 h x
 by_cases hx : l.contains x = true
 ·rw [if_neg (by rw [h0, hx]; simp), if_pos hx]
  exact ⟨_, rfl, h⟩
 ·have hx' : l.contains x = false := by simpa using hx
  rw [if_pos (by rw [h0]; exact hx'), if_neg hx, m8 (by simp; omega)]
  exact ⟨_, rfl, holds_put h x⟩
theorem jM : ∀ (n : Nat) (c : PC) (B : LI) (bound : MI) (list : LI) (seen : Option (MI)), c.cnt < n → c.nice → cntm bound B → seenOK seen list → B.length + wK c ≤ 1000000000 → list.length + 1 + cnt c ≤ 1000000000 →
 ∃ r, s5 n c bound list seen = some r ∧ (cntm r.1 B ∧ r.2.1 = free c B list ∧ seenOK r.2.2 r.2.1)
 | 0, c, _, _, _, _, h, _, _, _, _, _ => by omega
 | n + 1, c, B, bound, list, seen, h, hc, hb, hs, hB, hl => by
  show ∃ r, gZ (s5 n) c bound list seen = some r ∧ _
  have hc' := (z4 c).1 hc
  have hw := cL c
  have hcc := cnt_eq c
  have h5 : ∀ (l : LI) (s : Option (MI)) (m : MI), cntm m (B ++ c.params) → l = free c B list → seenOK s l → ∃ r, itr (jL c l s) LF (0, m) = some r ∧ (cntm r.1 B ∧ r.2.1 = free c B list ∧ seenOK r.2.2 r.2.1) := fun l s m hm hl hs => by
   refine yB (L := jL c l s) c.params.length (fun i m => cntm m (B ++ c.params.drop i)) _ (by omega) (fun go i m hi hm hgo => ?_) (fun go m hm => ?_) (by simpa using hm)
   ·show ∃ r, U2 c l s go i m = some r ∧ _
    unfold U2
    have hq := cntm_le hm c.params[i]
    rw [List.length_append, List.length_drop] at hq
    rw [List.drop_eq_getElem_cons hi] at hm
    rw [if_pos (by omega), t9 hi, g9, m8 (by omega), m8 (by omega)]
    exact hgo _ (cntm_dn hm)
   ·show ∃ r, U2 c l s go _ m = some r ∧ _
    unfold U2
    rw [List.drop_length, List.append_nil] at hm
    rw [if_neg (by omega)]
    exact ⟨_, rfl, hm, hl, hs⟩
  have h4 : ∀ (l : LI) (s : Option (MI)) (m : MI), cntm m (B ++ c.params) → frees c.kids (B ++ c.params) l = free c B list → l.length + cnts c.kids ≤ 1000000000 → seenOK s l → ∃ r, itr (jK (s5 n) c) LF (0, m, l, s) = some r ∧ (cntm r.1 B ∧ r.2.1 = free c B list ∧ seenOK r.2.2 r.2.1) := fun l s m hm hl hll hs => by
   refine yB (L := jK (s5 n) c) c.kids.length (fun i v => cntm v.1 (B ++ c.params) ∧ frees (c.kids.drop i) (B ++ c.params) v.2.1 = free c B list ∧ v.2.1.length + cnts (c.kids.drop i) ≤ 1000000000 ∧ seenOK v.2.2 v.2.1) _ (by omega) (fun go i v hi hv hgo => ?_) (fun go v hv => ?_) (by rw [List.drop_zero]; exact ⟨hm, hl, hll, hs⟩)
   ·obtain ⟨m, l, s⟩ := v
    obtain ⟨g1, g2, g3, g4⟩ := hv
    show ∃ r, U1 (s5 n) c go i m l s = some r ∧ _
    unfold U1
    rw [List.drop_eq_getElem_cons hi] at g2 g3
    unfold frees at g2
    unfold cnts at g3
    simp only at g2 g3
    obtain ⟨r, e1, e2, e3, e4⟩ := jM n c.kids[i] (B ++ c.params) m l s (by have := P6 hi; omega) (A4 hc (List.getElem_mem hi)) g1 g4 (by have := kM (List.getElem_mem hi); rw [List.length_append]; omega) (by omega)
    have hfl := vU.1 c.kids[i] (B ++ c.params) l
    rw [if_pos (by omega), t9 hi, g9, e1, g9, m8 (by omega)]
    refine hgo (r.1, r.2.1, r.2.2) ⟨e2, ?_, ?_, e4⟩
    ·show frees _ _ r.2.1 = _
     rw [e3]; exact g2
    ·show r.2.1.length + _ ≤ _
     rw [e3]; omega
   ·obtain ⟨m, l, s⟩ := v
    obtain ⟨g1, g2, g3, g4⟩ := hv
    show ∃ r, U1 (s5 n) c go _ m l s = some r ∧ _
    unfold U1
    rw [if_neg (by omega)]
    rw [List.drop_length] at g2
    exact h5 l s m g1 g2 g4
  have h3 : ∀ (l : LI) (s : Option (MI)), frees c.kids (B ++ c.params) l = free c B list → l.length + cnts c.kids ≤ 1000000000 → seenOK s l → ∃ r, Y5 (s5 n) c bound l s = some r ∧ (cntm r.1 B ∧ r.2.1 = free c B list ∧ seenOK r.2.2 r.2.1) := fun l s hl hll hs => by
   unfold Y5
   refine yB (L := oT (s5 n) c l s) c.params.length (fun i m => cntm m (B ++ c.params.take i)) _ (by omega) (fun go i m hi hm hgo => ?_) (fun go m hm => ?_) (by simpa using hb)
   ·show ∃ r, U0 (s5 n) c l s go i m = some r ∧ _
    unfold U0
    have hq := cntm_le hm c.params[i]
    rw [List.length_append, List.length_take] at hq
    rw [if_pos (by omega), t9 hi, g9, m8 (by omega), m8 (by omega)]
    refine hgo _ ?_
    have := cntm_up hm c.params[i]
    rw [List.append_assoc] at this
    rw [List.take_add_one, List.getElem?_eq_getElem hi]
    exact this
   ·show ∃ r, U0 (s5 n) c l s go _ m = some r ∧ _
    unfold U0
    rw [if_neg (by omega)]
    rw [List.take_length] at hm
    exact h4 l s m hm hl hll hs
  have hJ : ∀ x, (x = (named c && !B.contains c.number)) → ∃ r, T9 (s5 n) c bound list seen x = some r ∧ (cntm r.1 B ∧ r.2.1 = free c B list ∧ seenOK r.2.2 r.2.1) := fun x hx => by
   unfold T9
   have hfe := af3 c B list
   unfold freeOne at hfe
   cases hxx : x
   ·rw [if_neg (by simp)]
    refine h3 list seen ?_ (by omega) hs
    rw [hfe, if_neg]
    rw [← Bool.and_assoc, ← hx, hxx]; simp
   ·rw [if_pos rfl]
    obtain ⟨s2, e1, e2⟩ := G0 hs (by omega) c.number
    rw [e1, g9]
    refine h3 _ s2 ?_ ?_ e2
    ·rw [hfe, ← Bool.and_assoc, ← hx, hxx, Bool.true_and]
     cases list.contains c.number <;> rfl
    ·show List.length (if list.contains c.number = true then list else list ++ [c.number]) + _ ≤ _
     split
     ·omega
     ·rw [List.length_append]; simp; omega
  unfold gZ
  have h0 := cntm_0 hb c.number
  unfold named at hJ
  by_cases k2 : c.kind = 2
  ·rw [if_pos k2]; exact hJ _ (by rw [h0]; simp [k2])
  ·rw [if_neg k2]
   by_cases k4 : c.kind = 4
   ·rw [if_pos k4]; exact hJ _ (by rw [h0]; simp [k4])
   ·rw [if_neg k4]; exact hJ _ (by simp [k2, k4])
theorem fL (c : PC) (hc : c.nice) (hb : wK c ≤ 40000000) : N5 c = some (free c [] []) := by
 unfold N5
 have hcw := lL.1 c
 obtain ⟨r, e1, e2, e3, e4⟩ := jM RF c [] [] [] none (RF_cntK (by omega)) hc cntm_nil xF (by simp; omega) (by simp; omega)
 rw [e1, g9, e3]
theorem ac8 (c : PC) (h : wK c ≤ 1048576) : (free c [] []).length ≤ 1048577 := by
 have h1 := vU.1 c [] []
 have h2 := lL.1 c
 simp at h1; omega
theorem aa4 (c : PC) (hc : c.nice) (hb : wK c ≤ 1048576) : dU c = some c.valid := by
 unfold dU PC.valid
 have hcw := lL.1 c
 have h1 := ac8 c hb
 have h2 := ae3.1 c
 rw [oD RF c 1 0 (RF_cntK (by omega)) hc (by omega) (by omega) (by omega) (by omega), g9, meas_tree, fL c hc (by omega), oM c hc hb, g9, g9, jI _ _ (by omega) (by omega), g9]
 cases c.tree <;> rfl
theorem ah7 (l : LI) (h : l.length ≤ 2000000) : itr (jX l l) LF 0 = some true := by
 rw [dW (L := jX l l) l.length (fun _ => some true) (by omega) (fun go i hi hgo => ?_) (fun go => ?_)]
 ·show U7 l l go i = _
  unfold U7
  rw [if_pos (by omega), t9 hi, g9, I9 _ _ (by omega), g9, if_pos (by simp), m8 (by omega), hgo]
 ·show U7 l l go _ = _
  unfold U7
  rw [if_neg (by omega)]
theorem s_l5Small_eq (c : PC) (hc : c.nice) (hcc : c.cnt ≤ 1048576) : iG c = some (decide (0 ≤ few c 3000)) := by
 unfold iG
 rw [s_l5Few_eq RF c 3000 (RF_cntK (by omega)) hc (by omega) (by omega), g9]
theorem s_l5Valid_eq (c : PC) (hc : c.nice) (hb : wK c ≤ 1048576) : mZ c = some c.valid := by
 unfold mZ wA PC.valid
 have hcw := lL.1 c
 have h1 := ac8 c hb
 have h2 := ae3.1 c
 rw [s_l5Small_eq c hc (by omega), fT c hc (by omega), vK RF c (RF_cntK (by omega)) hc (by omega), uX RF c (RF_cntK (by omega)) hc, uU RF c [] (RF_cntK (by omega)) hc (by simp; omega), ← few_tree]
 rw [g9, g9, g9, g9, g9, eI _ (by omega), g9, g9, m8 (by simp; omega), List.nil_append, ai8 _ (by rw [List.length_append]; omega), g9, g9, ah7 _ (by omega)]
 by_cases g1 : 0 ≤ few c 3000 <;> by_cases g2 : c.depth ≤ 150 <;> cases c.okAll <;> cases uniq [] (free c [] [] ++ bnds c) <;> simp [g1, g2, show (150 < c.depth) = ¬ c.depth ≤ 150 from propext ⟨fun h => by omega, fun h => by omega⟩]
end Go.Abs

namespace Go.Abs
open PC
theorem wfK_len {c : PC} (h : c.wf) : c.params.length ≤ 9223372036854775807 ∧ c.datum.wf ∧ c.kids.length ≤ 9223372036854775807 ∧ ∀ x ∈ c.kids, x.wf := by
 have := (PC.wf_eq c).1 h
 exact ⟨this.2.2.1.1, this.2.2.2.1, this.2.2.2.2.1, fun x hx => PC.wfs_mem this.2.2.2.2.2 hx⟩
theorem szIntS_eq (l : LI) (h : l.length ≤ 9223372036854775807) (left : Int) (h0 : 0 ≤ left) (h1 : left ≤ 1048576) : sP l left = some (szw l.length left) := by
 unfold sP
 rw [m8 (by omega)]
 unfold szw
 split <;> rfl
theorem w_szK_eq : ∀ n : Nat, (∀ c : PC, c.wf → ∀ left : Int, 0 ≤ left → left ≤ 1048576 → 2 * left + 2 ≤ n → A1 n c left = some (szw (wK c) left)) ∧ (∀ ds : List PC, ds.length ≤ 9223372036854775807 → (∀ x ∈ ds, x.wf) → ∀ left : Int, 0 ≤ left → left ≤ 1048576 → 2 * left + 1 ≤ n → E3 n ds left = some (szw (wKs ds) left))
 | 0 => ⟨fun d _ left h1 _ h2 => by omega, fun ds _ _ left h1 _ h2 => by omega⟩
 | n + 1 => by
  have ih := w_szK_eq n
  refine ⟨fun c hw left h0 h1 h => ?_, fun ds hl hw left h0 h1 h => ?_⟩
  ·show iT (A1 n) (E3 n) c left = _
   unfold iT
   have hw' := wfK_len hw
   rw [szIntS_eq _ hw'.1 _ h0 h1, g9, cL, ← zL, ← zL]
   by_cases hx : szw c.params.length left < 0
   ·rw [if_pos hx, aj8 hx]
    have e : szw (wD c.datum) (-1) = -1 := by unfold szw; rw [if_pos (by omega)]
    rw [e]
    have e : szw (wKs c.kids) (-1) = -1 := by unfold szw; rw [if_pos (by omega)]
    rw [e]
   ·have hp := szw_pos hx
    rw [if_neg hx, (w_sz_eq RF).1 c.datum hw'.2.1 _ (by omega) (by omega) (by rw [RF_eq]; omega), g9]
    by_cases hy : szw (wD c.datum) (szw c.params.length left) < 0
    ·rw [if_pos hy, aj8 hy]
     have e : szw (wKs c.kids) (-1) = -1 := by unfold szw; rw [if_pos (by omega)]
     rw [e]
    ·have hq := szw_pos hy
     rw [if_neg hy, ih.2 c.kids hw'.2.2.1 hw'.2.2.2 _ (by omega) (by omega) (by omega), g9, szw_if]
  ·show fA (A1 n) (E3 n) ds left = _
   unfold fA
   rw [wKs_eq]
   refine szS_eq (L := nG (A1 n) ds) (E := A1 n) wK ds left (fun x hx m hm hm2 => ih.1 x (hw x hx) m hm (by omega) ?_) (fun go left i => rfl) ⟨h0, h1⟩ hl
   have : 0 < ds.length := List.length_pos_of_mem hx
   omega
theorem w_toK_eq : ∀ n : Nat, (∀ c : PC, 2 * c.cnt + 1 < n → c.nice → y8 n c = some c) ∧ (∀ ds : List PC, 2 * PC.cnts ds < n → ds.length ≤ 1048576 → nices ds → E4 n ds = some ds)
 | 0 => ⟨fun d h => by omega, fun ds h => by omega⟩
 | n + 1 => by
  have ih := w_toK_eq n
  refine ⟨fun c h hs => ?_, fun ds h hl hw => ?_⟩
  ·show iU (y8 n) (E4 n) c = _
   unfold iU wC
   have hc := PC.cnt_eq c
   have hc' := (z4 c).1 hs
   rw [toS_eq' (L := qJ c.params) 0 c.params 8 (by omega) hc'.1 (fun go i out => rfl), g9, toDatum_eq (G2 hs), g9, ih.2 c.kids (by omega) hc'.2.2.1 hc'.2.2.2, g9]
   cases c; rfl
  ·show fD (y8 n) (E4 n) ds = _
   unfold fD
   exact toS_eq (L := nI (y8 n) ds) (T := y8 n) _ ds 120 (by omega) hl (fun x hx => ih.1 x (by have := PC.cnts_mem hx; omega) (dZ hw hx)) (fun go i out => rfl)
theorem w_eqK_eq : ∀ n : Nat, (∀ c : PC, 2 * c.cnt + 1 < n → c.nice → z6 n c c = some true) ∧ (∀ ds : List PC, 2 * PC.cnts ds < n → ds.length ≤ 1048576 → nices ds → D9 n ds ds = some true)
 | 0 => ⟨fun d h => by omega, fun ds h => by omega⟩
 | n + 1 => by
  have ih := w_eqK_eq n
  refine ⟨fun c h hs => ?_, fun ds h hl hw => ?_⟩
  ·show iR (z6 n) (D9 n) c c = _
   unfold iR wB
   have hc := PC.cnt_eq c
   have hc' := (z4 c).1 hs
   rw [if_pos rfl, if_pos rfl, eqS_refl' (L := qG c.params c.params) c.params hc'.1 (fun go i => rfl), g9, if_pos rfl, eqDatum_eq (G2 hs), g9, if_pos rfl, ih.2 c.kids (by omega) hc'.2.2.1 hc'.2.2.2, g9, if_pos rfl]
  ·show eT (z6 n) (D9 n) ds ds = _
   unfold eT
   exact eqS_refl (L := nC (z6 n) ds ds) (E := z6 n) ds hl (fun x hx => ih.1 x (by have := PC.cnts_mem hx; omega) (dZ hw hx)) (fun go i => rfl)
theorem toCore_eq {c : PC} (h : c.nice) (hc : c.cnt ≤ 1000000000000) : y8 RF c = some c := (w_toK_eq RF).1 c (by rw [RF_eq]; omega) h
theorem xA {c : PC} (h : c.nice) (hc : c.cnt ≤ 1000000000000) : z6 RF c c = some true := (w_eqK_eq RF).1 c (by rw [RF_eq]; omega) h
def mAll {α : Type} (M : Int → α → Int × α) : Int → List α → Int × List α
 | k, [] => (k, [])
 | k, x :: r => ((mAll M (M k x).1 r).1, (M k x).2 :: (mAll M (M k x).1 r).2)
theorem N2 {α : Type} (M : Int → α → Int × α) : ∀ (xs : List α) (k : Int), (mAll M k xs).2.length = xs.length
 | [], _ => rfl
 | x :: r, k => by simp [mAll, N2 M r]
theorem wts_nil {α : Type} (wt : α → Nat) : wts wt ([] : List α) = 0 := rfl
theorem mAll_le {α : Type} {M : Int → α → Int × α} {wt : α → Nat} (hM : ∀ k x, k ≤ (M k x).1 ∧ (M k x).1 ≤ k + 6 * ((1 + wt x : Nat) : Int)) : ∀ (xs : List α) (k : Int), k ≤ (mAll M k xs).1 ∧ (mAll M k xs).1 ≤ k + 6 * ((wts wt xs : Nat) : Int)
 | [], k => by rw [wts_nil]; exact ⟨Int.le_refl _, by show k ≤ _; omega⟩
 | x :: r, k => by
  have h1 := hM k x
  have h2 := mAll_le hM r (M k x).1
  rw [wF]
  unfold mAll
  dsimp only
  omega
theorem set_take {α : Type} {a : List α} {i : Nat} {y : α} (h : i < a.length) : (a.set i y).take (i + 1) = a.take i ++ [y] ∧ (a.set i y).drop (i + 1) = a.drop (i + 1) := by
 rw [List.set_eq_take_append_cons_drop, if_pos h]
 have e : (a.take i).length = i := by rw [List.length_take]; omega
 constructor
 ·rw [List.take_append, e, List.take_of_length_le (by omega)]
  simp
 ·rw [List.drop_append, e, List.drop_of_length_le (by omega)]
  simp
theorem tL {α : Type} {M : Int → α → Int × α} (wt : α → Nat) (S : α → Prop) (B : Int) {L : (Int × Int × List α → Option (Int × List α)) → Int × Int × List α → Option (Int × List α)}
 (hM : ∀ k x, k ≤ (M k x).1 ∧ (M k x).1 ≤ k + 6 * ((1 + wt x : Nat) : Int))
 (step : ∀ go (i : Nat) k (a : List α) (hi : i < a.length), a.length ≤ 1048576 → S a[i] → 0 ≤ k → k + 6 * ((1 + wt a[i] : Nat) : Int) ≤ B → L go (k, (i : Int), a) = go ((M k a[i]).1, (i : Int) + 1, a.set i (M k a[i]).2))
 (fin : ∀ go k (a : List α), L go (k, (a.length : Int), a) = some (k, a))
 (xs : List α) (hS : ∀ x ∈ xs, S x) (hn : xs.length ≤ 1048576) (k : Int) (h0 : 0 ≤ k) (hB : k + 6 * ((wts wt xs : Nat) : Int) ≤ B) : itr L LF (k, 0, xs) = some (mAll M k xs) := by
 refine (lE (L := L) (fun v => some ((mAll M v.1 (v.2.2.drop v.2.1.toNat)).1, v.2.2.take v.2.1.toNat ++ (mAll M v.1 (v.2.2.drop v.2.1.toNat)).2)) (fun v => (0 ≤ v.2.1 ∧ v.2.1 ≤ v.2.2.length) ∧ v.2.2.length ≤ 1048576 ∧ (∀ x ∈ v.2.2.drop v.2.1.toNat, S x) ∧ 0 ≤ v.1 ∧ v.1 + 6 * ((wts wt (v.2.2.drop v.2.1.toNat) : Nat) : Int) ≤ B) (fun v => v.2.2.length - v.2.1.toNat) (fun go v hv hgo => ?_) (k, 0, xs) ⟨⟨Int.le_refl _, by show (0 : Int) ≤ (xs.length : Int); omega⟩, hn, by simpa using hS, h0, by simpa using hB⟩ (by show xs.length - 0 < _; omega)).trans (by simp)
 obtain ⟨k, j, a⟩ := v
 obtain ⟨⟨h1, h2⟩, h3, h4, h5, h6⟩ := hv
 simp only at h1 h2 h3 h4 h5 h6
 obtain ⟨i, rfl⟩ := Int.eq_ofNat_of_zero_le h1
 simp only [Int.ofNat_eq_natCast, Int.toNat_natCast] at *
 by_cases hi : i < a.length
 ·rw [List.drop_eq_getElem_cons hi] at h4 h6 ⊢
  rw [wF] at h6
  have hm := hM k a[i]
  have hst := set_take (y := (M k a[i]).2) hi
  rw [step go i k a hi h3 (h4 _ List.mem_cons_self) h5 (by omega)]
  refine (hgo ((M k a[i]).1, (i : Int) + 1, a.set i (M k a[i]).2) ⟨⟨by show (0 : Int) ≤ (i : Int) + 1; omega, by show (i : Int) + 1 ≤ ((a.set i _).length : Int); rw [List.length_set]; omega⟩, by show (a.set i _).length ≤ _; rw [List.length_set]; omega, ?_, by show 0 ≤ (M k a[i]).1; omega, ?_⟩ (by show (a.set i _).length - ((i : Int) + 1).toNat < _; rw [List.length_set]; omega)).trans ?_
  ·show ∀ x ∈ (a.set i _).drop ((i : Int) + 1).toNat, S x
   rw [show ((i : Int) + 1).toNat = i + 1 by omega, hst.2]
   exact fun x hx => h4 x (List.mem_cons_of_mem _ hx)
  ·show (M k a[i]).1 + 6 * ((wts wt ((a.set i _).drop ((i : Int) + 1).toNat) : Nat) : Int) ≤ B
   rw [show ((i : Int) + 1).toNat = i + 1 by omega, hst.2]
   omega
  ·show some ((mAll M (M k a[i]).1 ((a.set i _).drop ((i : Int) + 1).toNat)).1, (a.set i _).take ((i : Int) + 1).toNat ++ (mAll M (M k a[i]).1 ((a.set i _).drop ((i : Int) + 1).toNat)).2) = _
   rw [show ((i : Int) + 1).toNat = i + 1 by omega, hst.2, hst.1, List.append_assoc]
   rfl
 ·have : i = a.length := by omega
  subst this
  rw [fin, List.drop_length, List.take_length]
  simp [mAll]
theorem sV {α : Type} {M : Int → α → Int × α} (wt : α → Nat) (S : α → Prop) (B : Int) (a : List α) {L : (Int × Int → Option Int) → Int × Int → Option Int}
 (hM : ∀ k x, k ≤ (M k x).1 ∧ (M k x).1 ≤ k + 6 * ((1 + wt x : Nat) : Int))
 (step : ∀ go (i : Nat) k (hi : i < a.length) x, a[i] = (M k x).2 → S x → 0 ≤ k → k + 6 * ((1 + wt x : Nat) : Int) ≤ B → L go (k, (i : Int)) = go ((M k x).1, (i : Int) + 1))
 (fin : ∀ go k, L go (k, (a.length : Int)) = some k)
 (xs : List α) (hS : ∀ x ∈ xs, S x) (hn : xs.length ≤ 1048576) (k : Int) (h0 : 0 ≤ k) (hB : k + 6 * ((wts wt xs : Nat) : Int) ≤ B) (ha : a = (mAll M k xs).2) : itr L LF (k, 0) = some (mAll M k xs).1 := by
 have hal : a.length = xs.length := by rw [ha, N2]
 refine lE (L := L) (fun _ => some (mAll M k xs).1) (fun v => (0 ≤ v.2 ∧ v.2 ≤ a.length) ∧ ∃ ys, a.drop v.2.toNat = (mAll M v.1 ys).2 ∧ (mAll M v.1 ys).1 = (mAll M k xs).1 ∧ (∀ x ∈ ys, S x) ∧ 0 ≤ v.1 ∧ v.1 + 6 * ((wts wt ys : Nat) : Int) ≤ B) (fun v => a.length - v.2.toNat) (fun go v hv hgo => ?_) (k, 0) ⟨⟨Int.le_refl _, by show (0 : Int) ≤ (a.length : Int); omega⟩, xs, by simpa using ha, rfl, hS, h0, hB⟩ (by show a.length - 0 < _; omega)
 obtain ⟨k1, j⟩ := v
 obtain ⟨⟨h1, h2⟩, ys, g1, g2, g3, g4, g5⟩ := hv
 simp only at h1 h2 g1 g2 g3 g4 g5
 obtain ⟨i, rfl⟩ := Int.eq_ofNat_of_zero_le h1
 simp only [Int.ofNat_eq_natCast, Int.toNat_natCast] at *
 by_cases hi : i < a.length
 ·rw [List.drop_eq_getElem_cons hi] at g1
  cases ys with
  | nil => simp [mAll] at g1; omega
  | cons y r =>
   have g2 : (mAll M (M k1 y).1 r).1 = (mAll M k xs).1 := g2
   have g1 : a[i] :: a.drop (i + 1) = (M k1 y).2 :: (mAll M (M k1 y).1 r).2 := g1
   simp only [List.cons.injEq] at g1
   rw [wF] at g5
   have hm := hM k1 y
   rw [step go i k1 hi y g1.1 (g3 y (by simp)) g4 (by omega)]
   exact hgo ((M k1 y).1, (i : Int) + 1) ⟨⟨by show (0 : Int) ≤ (i : Int) + 1; omega, by show (i : Int) + 1 ≤ _; omega⟩, r, by show a.drop ((i : Int) + 1).toNat = _; rw [show ((i : Int) + 1).toNat = i + 1 by omega]; exact g1.2, g2, fun x hx => g3 x (by simp [hx]), by show 0 ≤ (M k1 y).1; omega, by show (M k1 y).1 + _ ≤ _; omega⟩ (by show a.length - ((i : Int) + 1).toNat < a.length - i; omega)
 ·have : i = a.length := by omega
  subst this
  rw [fin]
  rw [List.drop_length] at g1
  cases ys with
  | nil => rw [← g2]; rfl
  | cons y r => simp [mAll] at g1
def mI (k : Int) (_ : Int) : Int × Int := (k + 1, k)
theorem mI_le (k x : Int) : k ≤ (mI k x).1 ∧ (mI k x).1 ≤ k + 6 * ((1 + 0 : Nat) : Int) := by unfold mI; dsimp only; omega
theorem wts_0 {α : Type} (xs : List α) : wts (fun _ => 0) xs = xs.length := by
 induction xs with
 | nil => rfl
 | cons x r ih => rw [wF, ih]; simp; omega
theorem yG (xs : LI) (k : Int) (hn : xs.length ≤ 1048576) (h0 : 0 ≤ k) (h1 : k + 6 * (xs.length : Int) ≤ 1000000000000) : bO xs k = some (mAll mI k xs) := by
 unfold bO
 refine tL (L := kU) (fun _ => 0) (fun _ => True) 1000000000000 (fun k x => mI_le k x) (fun go i k a hi ha _ h0 h1 => ?_) (fun go k a => ?_) xs (fun _ _ => trivial) hn k h0 (by rw [wts_0]; exact h1)
 ·show N0 go k i a = _
  unfold N0
  rw [if_pos (by omega), t9 hi, g9, m8 (by omega), m8 (by omega), Int.toNat_natCast]; rfl
 ·show N0 go k _ a = _
  unfold N0
  rw [if_neg (by omega)]
theorem xE (xs : LI) (k : Int) (hn : xs.length ≤ 1048576) (h0 : 0 ≤ k) (h1 : k + 6 * (xs.length : Int) ≤ 1000000000000) : bN (mAll mI k xs).2 k = some (mAll mI k xs).1 := by
 unfold bN
 have hal : (mAll mI k xs).2.length = xs.length := N2 _ _ _
 refine sV (L := kS (mAll mI k xs).2) (fun _ => 0) (fun _ => True) 1000000000000 (mAll mI k xs).2 (fun k x => mI_le k x) (fun go i k1 hi x hx _ h0 h1 => ?_) (fun go k1 => ?_) xs (fun _ _ => trivial) hn k h0 (by rw [wts_0]; exact h1) rfl
 ·show M9 _ go k1 i = _
  unfold M9
  rw [if_pos (by omega), t9 hi, g9, hx, if_pos (show (mI k1 x).2 = k1 from rfl), m8 (by omega), m8 (by omega)]; rfl
 ·show M9 _ go k1 _ = _
  unfold M9
  rw [if_neg (by omega)]
def mtx (k : Int) : LB := (R7 k).getD []
theorem jR {k : Int} (h : k ≤ 4611686018427387904) : R7 k = some (mtx k) := by
 obtain ⟨t, ht⟩ := ag5 k h
 unfold mtx; rw [ht]; rfl
mutual
def mD : Int → PD → Int × PD
 | k, .mk _ _ _ is => ((mDs (k + 1 + 1 + 1) is).1, .mk k (k + 1) (mtx (k + 1 + 1)) (mDs (k + 1 + 1 + 1) is).2)
def mDs : Int → List PD → Int × List PD
 | k, [] => (k, [])
 | k, d :: r => ((mDs (mD k d).1 r).1, (mD k d).2 :: (mDs (mD k d).1 r).2)
end
theorem mDs_eq : ∀ (ds : List PD) (k : Int), mDs k ds = mAll mD k ds
 | [], _ => by unfold mDs mAll; rfl
 | d :: r, k => by unfold mDs mAll; rw [mDs_eq r]
theorem mD_eq (k : Int) (d : PD) : mD k d = ((mAll mD (k + 1 + 1 + 1) d.items).1, .mk k (k + 1) (mtx (k + 1 + 1)) (mAll mD (k + 1 + 1 + 1) d.items).2) := by
 cases d; unfold mD; rw [mDs_eq]; rfl
theorem mD_le : (∀ d : PD, ∀ k, k ≤ (mD k d).1 ∧ (mD k d).1 ≤ k + 6 * ((1 + wD d : Nat) : Int)) ∧ ∀ ds : List PD, ∀ k, k ≤ (mAll mD k ds).1 ∧ (mAll mD k ds).1 ≤ k + 6 * ((wDs ds : Nat) : Int) := by
 refine PD.ind (fun ds h k => ?_) (fun d h k => ?_)
 ·induction ds generalizing k with
  | nil => exact ⟨Int.le_refl _, by show k ≤ _; omega⟩
  | cons x r ih =>
   have h1 := h x (by simp) k
   have h2 := ih (fun y hy => h y (by simp [hy])) (mD k x).1
   unfold wDs mAll
   dsimp only
   omega
 ·have h1 := h (k + 1 + 1 + 1)
  have h2 := uC d
  rw [mD_eq]
  dsimp only
  omega
theorem jQ : ∀ (n : Nat) (ds : List PD) (k : Int), PD.cnts ds < n → wDs ds ≤ 1048576 → 0 ≤ k → k + 6 * ((wDs ds : Nat) : Int) ≤ 1000000000000 → s9 n ds k = some (mAll mD k ds)
 | 0, ds, k, h, _, _, _ => by omega
 | n + 1, ds, k, h, hc, h0, h1 => by
  show X8 (s9 n) ds k = _
  unfold X8
  have hl := PD.cnts_len ds
  have hw := wT.2 ds
  refine tL (L := eZ (s9 n)) wD (fun x => wD x ≤ 1048576 ∧ x.cnt < n) 1000000000000 (fun k x => mD_le.1 x k) (fun go i k1 a hi ha hx hk hB => ?_) (fun go k1 a => ?_) ds (fun x hx => ⟨by have := wDs_mem hx; omega, by have := PD.cnts_mem hx; omega⟩) (by omega) k h0 (by rw [← wDs_eq]; exact h1)
  ·show I1 (s9 n) go k1 (i : Int) a = _
   unfold I1
   have hwi := uC a[i]
   have hci := PD.cnt_eq a[i]
   simp only [Int.toNat_natCast, List.set_set]
   rw [if_pos (by omega), t9 hi, g9, m8 (by omega), eA hi, g9, m8 (by omega), jR (by omega), g9, eA hi, g9, m8 (by omega), eA hi, g9]
   try simp only [vX, mk_kind, yK, mk_text]
   rw [jQ n a[i].items (k1 + 1 + 1 + 1) (by omega) (by omega) (by omega) (by omega), g9]
   refine (m8 (N2 mD a[i].items _)).trans ((m8 (by omega)).trans ?_)
   rw [mD_eq]
  ·show I1 (s9 n) go k1 _ a = _
   unfold I1
   rw [if_neg (by omega)]
theorem jA : ∀ (n : Nat) (ds : List PD) (k : Int), PD.cnts ds < n → wDs ds ≤ 1048576 → 0 ≤ k → k + 6 * ((wDs ds : Nat) : Int) ≤ 1000000000000 → s8 n (mAll mD k ds).2 k = some (mAll mD k ds).1
 | 0, ds, k, h, _, _, _ => by omega
 | n + 1, ds, k, h, hc, h0, h1 => by
  show X7 (s8 n) (mAll mD k ds).2 k = _
  unfold X7
  have hl := PD.cnts_len ds
  have hw := wT.2 ds
  have hal : (mAll mD k ds).2.length = ds.length := N2 _ _ _
  refine sV (L := eX (s8 n) (mAll mD k ds).2) wD (fun x => wD x ≤ 1048576 ∧ x.cnt < n) 1000000000000 (mAll mD k ds).2 (fun k x => mD_le.1 x k) (fun go i k1 hi x hx hS hk hB => ?_) (fun go k1 => ?_) ds (fun x hx => ⟨by have := wDs_mem hx; omega, by have := PD.cnts_mem hx; omega⟩) (by omega) k h0 (by rw [← wDs_eq]; exact h1) rfl
  ·show I0 (s8 n) (mAll mD k ds).2 go k1 (i : Int) = _
   unfold I0
   have hwi := uC x
   have hci := PD.cnt_eq x
   have hle := mD_le.2 x.items (k1 + 1 + 1 + 1)
   rw [mD_eq] at hx
   rw [if_pos (by omega), t9 hi, hx]
   simp only [g9, vX, mk_kind, yK, mk_text]
   rw [if_pos trivial, m8 (by omega), if_pos trivial, m8 (by omega), jR (by omega), g9]
   refine (if_pos rfl).trans ?_
   rw [m8 (by omega), jA n x.items (k1 + 1 + 1 + 1) (by omega) (by omega) (by omega) (by omega), g9, if_neg (by omega), m8 (by omega), mD_eq]
  ·show I0 (s8 n) (mAll mD k ds).2 go k1 _ = _
   unfold I0
   rw [if_neg (by omega)]
theorem kK (k n : Int) (p : LI) (d : PD) (ks : List PC) : (PC.mk k n p d ks).kind = k ∧ (PC.mk k n p d ks).number = n ∧ (PC.mk k n p d ks).params = p ∧ (PC.mk k n p d ks).datum = d ∧ (PC.mk k n p d ks).kids = ks := ⟨rfl, rfl, rfl, rfl, rfl⟩
mutual
def mK : Int → PC → Int × PC
 | k, .mk _ _ p d ks => ((mKs (mAll mD ((mAll mI (k + 1 + 1) p).1 + 1 + 1 + 1) d.items).1 ks).1, .mk k (k + 1) (mAll mI (k + 1 + 1) p).2 (.mk (mAll mI (k + 1 + 1) p).1 ((mAll mI (k + 1 + 1) p).1 + 1) (mtx ((mAll mI (k + 1 + 1) p).1 + 1 + 1)) (mAll mD ((mAll mI (k + 1 + 1) p).1 + 1 + 1 + 1) d.items).2) (mKs (mAll mD ((mAll mI (k + 1 + 1) p).1 + 1 + 1 + 1) d.items).1 ks).2)
def mKs : Int → List PC → Int × List PC
 | k, [] => (k, [])
 | k, d :: r => ((mKs (mK k d).1 r).1, (mK k d).2 :: (mKs (mK k d).1 r).2)
end
theorem mKs_eq : ∀ (ds : List PC) (k : Int), mKs k ds = mAll mK k ds
 | [], _ => by unfold mKs mAll; rfl
 | d :: r, k => by unfold mKs mAll; rw [mKs_eq r]
def mP (k : Int) (c : PC) := mAll mI k c.params
def mQ (k : Int) (c : PC) := mAll mD k c.datum.items
theorem mK_eq (k : Int) (c : PC) : mK k c = ((mAll mK (mQ ((mP (k + 1 + 1) c).1 + 1 + 1 + 1) c).1 c.kids).1, .mk k (k + 1) (mP (k + 1 + 1) c).2 (.mk (mP (k + 1 + 1) c).1 ((mP (k + 1 + 1) c).1 + 1) (mtx ((mP (k + 1 + 1) c).1 + 1 + 1)) (mQ ((mP (k + 1 + 1) c).1 + 1 + 1 + 1) c).2) (mAll mK (mQ ((mP (k + 1 + 1) c).1 + 1 + 1 + 1) c).1 c.kids).2) := by
 cases c; unfold mK; rw [mKs_eq]; rfl
theorem mP_le (k : Int) (c : PC) : k ≤ (mP k c).1 ∧ (mP k c).1 ≤ k + 6 * (c.params.length : Int) := by
 have := mAll_le (wt := fun _ => 0) (fun k x => mI_le k x) c.params k
 rw [wts_0] at this; exact this
theorem mQ_le (k : Int) (c : PC) : k ≤ (mQ k c).1 ∧ (mQ k c).1 ≤ k + 6 * (wD c.datum : Int) := by
 have h1 := mD_le.2 c.datum.items k
 have h2 := uC c.datum
 exact ⟨h1.1, by show (mAll mD k c.datum.items).1 ≤ _; omega⟩
theorem mK_le : (∀ d : PC, ∀ k, k ≤ (mK k d).1 ∧ (mK k d).1 ≤ k + 6 * ((1 + wK d : Nat) : Int)) ∧ ∀ ds : List PC, ∀ k, k ≤ (mAll mK k ds).1 ∧ (mAll mK k ds).1 ≤ k + 6 * ((wKs ds : Nat) : Int) := by
 refine PC.ind (fun ds h k => ?_) (fun d h k => ?_)
 ·induction ds generalizing k with
  | nil => exact ⟨Int.le_refl _, by show k ≤ _; omega⟩
  | cons x r ih =>
   have h1 := h x (by simp) k
   have h2 := ih (fun y hy => h y (by simp [hy])) (mK k x).1
   unfold wKs mAll
   dsimp only
   omega
 ·have h1 := mP_le (k + 1 + 1) d
  have h2 := mQ_le ((mP (k + 1 + 1) d).1 + 1 + 1 + 1) d
  have h3 := h (mQ ((mP (k + 1 + 1) d).1 + 1 + 1 + 1) d).1
  have h4 := cL d
  rw [mK_eq]
  dsimp only
  omega
theorem nth_set' {α : Type} {l : List α} {i : Nat} {v : α} (h : i < l.length) : nth (l.set i v) (i : Int) = some v := eA h
theorem uN : ∀ (n : Nat) (ds : List PC) (k : Int), PC.cnts ds < n → nices ds → ds.length ≤ 1048576 → 0 ≤ k → k + 6 * ((wKs ds : Nat) : Int) ≤ 1000000000000 → v8 n ds k = some (mAll mK k ds)
 | 0, ds, k, h, _, _, _, _ => by omega
 | n + 1, ds, k, h, hc, hl, h0, h1 => by
  show aT (v8 n) ds k = _
  unfold aT
  refine tL (L := gQ (v8 n)) wK (fun x => x.nice ∧ x.cnt < n) 1000000000000 (fun k x => mK_le.1 x k) (fun go i k1 a hi ha hx hk hB => ?_) (fun go k1 a => ?_) ds (fun x hx => ⟨dZ hc hx, by have := PC.cnts_mem hx; omega⟩) hl k h0 (by rw [← wKs_eq]; exact h1)
  ·show K3 (v8 n) go k1 (i : Int) a = _
   unfold K3
   have hwi := cL a[i]
   have hci := PC.cnt_eq a[i]
   have hn := (z4 a[i]).1 hx.1
   have hwd := uC a[i].datum
   have hp := mP_le (k1 + 1 + 1) a[i]
   have hq := mQ_le ((mP (k1 + 1 + 1) a[i]).1 + 1 + 1 + 1) a[i]
   have hcw := wT.2 a[i].datum.items
   have e1 : bO a[i].params (k1 + 1 + 1) = some (mP (k1 + 1 + 1) a[i]) := yG _ _ hn.1 (by omega) (by omega)
   have e2 : s9 RF a[i].datum.items ((mP (k1 + 1 + 1) a[i]).1 + 1 + 1 + 1) = some (mQ ((mP (k1 + 1 + 1) a[i]).1 + 1 + 1 + 1) a[i]) := jQ RF _ _ (by rw [RF_eq]; omega) (by omega) (by omega) (by omega)
   have e3 := uN n a[i].kids (mQ ((mP (k1 + 1 + 1) a[i]).1 + 1 + 1 + 1) a[i]).1 (by omega) hn.2.2.2 hn.2.2.1 (by omega) (by omega)
   simp only [Int.toNat_natCast, List.set_set]
   rw [if_pos (by omega), t9 hi, g9, m8 (by omega), eA hi, g9, m8 (by omega), eA hi, g9]
   refine (congrArg (bnd · _) e1).trans ?_
   rw [g9]
   refine (m8 (N2 mI a[i].params _)).trans ?_
   rw [eA hi, g9, m8 (by omega), eA hi, g9, m8 (by omega), jR (by omega), g9, eA hi, g9, m8 (by omega), eA hi, g9]
   refine (congrArg (bnd · _) e2).trans ?_
   rw [g9]
   refine (m8 (N2 mD a[i].datum.items _)).trans ?_
   rw [eA hi, g9]
   refine (congrArg (bnd · _) e3).trans ?_
   rw [g9]
   refine (m8 (N2 mK a[i].kids _)).trans ((m8 (by omega)).trans ?_)
   rw [mK_eq]; rfl
  ·show K3 (v8 n) go k1 _ a = _
   unfold K3
   rw [if_neg (by omega)]
theorem uI : ∀ (n : Nat) (ds : List PC) (k : Int), PC.cnts ds < n → nices ds → ds.length ≤ 1048576 → 0 ≤ k → k + 6 * ((wKs ds : Nat) : Int) ≤ 1000000000000 → v7 n (mAll mK k ds).2 k = some (mAll mK k ds).1
 | 0, ds, k, h, _, _, _, _ => by omega
 | n + 1, ds, k, h, hc, hl, h0, h1 => by
  show aS (v7 n) (mAll mK k ds).2 k = _
  unfold aS
  have hal : (mAll mK k ds).2.length = ds.length := N2 _ _ _
  refine sV (L := gO (v7 n) (mAll mK k ds).2) wK (fun x => x.nice ∧ x.cnt < n) 1000000000000 (mAll mK k ds).2 (fun k x => mK_le.1 x k) (fun go i k1 hi x hx hS hk hB => ?_) (fun go k1 => ?_) ds (fun x hx => ⟨dZ hc hx, by have := PC.cnts_mem hx; omega⟩) hl k h0 (by rw [← wKs_eq]; exact h1) rfl
  ·show K2 (v7 n) (mAll mK k ds).2 go k1 (i : Int) = _
   unfold K2
   have hwi := cL x
   have hci := PC.cnt_eq x
   have hn := (z4 x).1 hS.1
   have hwd := uC x.datum
   have hp := mP_le (k1 + 1 + 1) x
   have hq := mQ_le ((mP (k1 + 1 + 1) x).1 + 1 + 1 + 1) x
   have hcw := wT.2 x.datum.items
   have hk3 := mK_le.2 x.kids (mQ ((mP (k1 + 1 + 1) x).1 + 1 + 1 + 1) x).1
   have e1 : bN (mP (k1 + 1 + 1) x).2 (k1 + 1 + 1) = some (mP (k1 + 1 + 1) x).1 := xE _ _ hn.1 (by omega) (by omega)
   have e2 : s8 RF (mQ ((mP (k1 + 1 + 1) x).1 + 1 + 1 + 1) x).2 ((mP (k1 + 1 + 1) x).1 + 1 + 1 + 1) = some (mQ ((mP (k1 + 1 + 1) x).1 + 1 + 1 + 1) x).1 := jA RF _ _ (by rw [RF_eq]; omega) (by omega) (by omega) (by omega)
   have e3 := uI n x.kids (mQ ((mP (k1 + 1 + 1) x).1 + 1 + 1 + 1) x).1 (by omega) hn.2.2.2 hn.2.2.1 (by omega) (by omega)
   rw [mK_eq] at hx
   rw [if_pos (by omega), t9 hi, hx]
   simp only [g9, kK, vX, mk_kind, yK, mk_text]
   rw [if_pos trivial, m8 (by omega), if_pos trivial, m8 (by omega), e1, g9, if_neg (by omega), if_pos rfl, m8 (by omega), if_pos rfl, m8 (by omega), jR (by omega), g9]
   refine (if_pos rfl).trans ?_
   rw [m8 (by omega), e2, g9, if_neg (by omega), e3, g9, if_neg (by omega), m8 (by omega), mK_eq]
  ·show K2 (v7 n) (mAll mK k ds).2 go k1 _ = _
   unfold K2
   rw [if_neg (by omega)]
theorem markDatum_eq (d : PD) (k : Int) (h : wD d ≤ 1048576) (h0 : 0 ≤ k) (h1 : k + 6 * (wD d : Int) ≤ 1000000000000) : eY d k = some (mAll mD k d.items) := by
 unfold eY
 have hwd := uC d
 have hcw := wT.2 d.items
 rw [jQ RF _ _ (by rw [RF_eq]; omega) (by omega) h0 (by omega), g9]
 exact m8 (N2 mD d.items _)
theorem heldDatum_eq (k n : Int) (t : LB) (is : List PD) (k1 : Int) (h : wDs is ≤ 1048576) (h0 : 0 ≤ k1) (h1 : k1 + 6 * (wDs is : Int) ≤ 1000000000000) : eW (PD.mk k n t (mAll mD k1 is).2) k1 = some (mAll mD k1 is).1 := by
 unfold eW
 have hcw := wT.2 is
 have hle := mD_le.2 is k1
 rw [vX, jA RF _ _ (by rw [RF_eq]; omega) (by omega) h0 (by omega), g9, if_neg (by omega)]
def mR (k : Int) (c : PC) := mAll mK k c.kids
theorem mR_le (k : Int) (c : PC) : k ≤ (mR k c).1 ∧ (mR k c).1 ≤ k + 6 * (wKs c.kids : Int) := mK_le.2 c.kids k
def endK (k : Int) (c : PC) : Int := (mR (mQ (mP k c).1 c).1 c).1
theorem endK_le (k : Int) (c : PC) : k ≤ endK k c ∧ endK k c ≤ k + 6 * (wK c : Int) := by
 have h1 := mP_le k c
 have h2 := mQ_le (mP k c).1 c
 have h3 := mR_le (mQ (mP k c).1 c).1 c
 have h4 := cL c
 unfold endK; omega
theorem yF (c : PC) (k : Int) (hc : c.nice) (hcc : c.cnt ≤ 1000000000000) (h0 : 0 ≤ k) (h1 : k + 6 * (wK c : Int) ≤ 1000000000000) : dE c k = some (endK k c, (mP k c).2, (mQ (mP k c).1 c).2, (mR (mQ (mP k c).1 c).1 c).2) := by
 unfold dE
 have hn := (z4 c).1 hc
 have hp := mP_le k c
 have hq := mQ_le (mP k c).1 c
 have hr := mR_le (mQ (mP k c).1 c).1 c
 have hw := cL c
 have hci := PC.cnt_eq c
 refine (congrArg (bnd · _) (yG _ _ hn.1 h0 (by omega))).trans ?_
 rw [g9]
 refine (m8 (N2 mI c.params _)).trans ?_
 refine (congrArg (bnd · _) (markDatum_eq c.datum (mP k c).1 hn.2.1 (by omega) (by omega))).trans ?_
 rw [g9]
 refine (m8 (N2 mD c.datum.items _)).trans ?_
 refine (congrArg (bnd · _) (uN RF c.kids (mQ (mP k c).1 c).1 (by rw [RF_eq]; omega) hn.2.2.2 hn.2.2.1 (by omega) (by omega))).trans ?_
 rw [g9]
 exact m8 (N2 mK c.kids _)
theorem heldCore_eq (kd n dk dn : Int) (dt : LB) (c : PC) (k : Int) (hc : c.nice) (hcc : c.cnt ≤ 1000000000000) (h0 : 0 ≤ k) (h1 : k + 6 * (wK c : Int) ≤ 1000000000000) : dD (PC.mk kd n (mP k c).2 (PD.mk dk dn dt (mQ (mP k c).1 c).2) (mR (mQ (mP k c).1 c).1 c).2) k = some (endK k c) := by
 unfold dD
 have hn := (z4 c).1 hc
 have hp := mP_le k c
 have hq := mQ_le (mP k c).1 c
 have hr := mR_le (mQ (mP k c).1 c).1 c
 have hw := cL c
 have hwd := uC c.datum
 have hci := PC.cnt_eq c
 simp only [kK]
 refine (congrArg (bnd · _) (xE c.params k hn.1 h0 (by omega))).trans ?_
 rw [g9]
 refine (if_neg (by show ¬ (mP k c).1 < 0; omega)).trans ?_
 refine (congrArg (bnd · _) (heldDatum_eq dk dn dt c.datum.items (mP k c).1 (by omega) (by omega) (by omega))).trans ?_
 rw [g9]
 refine (if_neg (by show ¬ (mQ (mP k c).1 c).1 < 0; omega)).trans ?_
 refine (congrArg (bnd · _) (uI RF c.kids (mQ (mP k c).1 c).1 (by rw [RF_eq]; omega) hn.2.2.2 hn.2.2.1 (by omega) (by omega))).trans ?_
 rw [g9]
 exact if_neg (by show ¬ (mR (mQ (mP k c).1 c).1 c).1 < 0; omega)
theorem mP_len (k : Int) (c : PC) : (mP k c).2.length = c.params.length := N2 _ _ _
theorem mQ_len (k : Int) (c : PC) : (mQ k c).2.length = c.datum.items.length := N2 _ _ _
theorem mR_len (k : Int) (c : PC) : (mR k c).2.length = c.kids.length := N2 _ _ _
end Go.Abs

namespace Go.Abs
open PC
def atomV (d : PD) : PVal := if d.kind = 1 then PVal.mk 4 0 d.text else if d.kind = 2 then PVal.mk 3 d.number [] else if d.kind = 3 then PVal.mk 2 d.number [] else if d.kind = 4 then PVal.mk 5 0 d.text else PVal.mk 1 0 []
theorem aa6 (n : Nat) (d : PD) (h : d.items = []) : B3 (n + 1) d [] = some (atomV d, []) := by
 show dV (B3 n) d [] = _
 unfold dV atomV
 have hl : itr (fQ (B3 n) d) LF (((d.items.length : Int) - 1), [], (PVal.mk 1 0 ([] : LB))) = some (PVal.mk 1 0 [], []) := by
  rw [h]
  refine lE (L := fQ (B3 n) d) (fun v => some (v.2.2, v.2.1)) (fun v => v.1 = -1) (fun _ => 0) (fun go v hv _ => ?_) _ (by rfl) (by omega)
  obtain ⟨i, ps, l⟩ := v
  have hv' : i = -1 := hv
  subst hv'
  rfl
 rw [m8 (by rw [h]; exact lO (by simp)), hl]
 repeat' split
 all_goals rfl
theorem oJ (n : Nat) (d : PD) (h : d.items = []) : A6 (n + 1) d [] = some (atomV d, []) := by
 show eP (A6 n) d [] = _
 unfold eP atomV
 have hl : itr (fZ (A6 n) d) LF (((d.items.length : Int) - 1), [], (PVal.mk 1 0 ([] : LB))) = some (PVal.mk 1 0 [], []) := by
  rw [h]
  refine lE (L := fZ (A6 n) d) (fun v => some (v.2.2, v.2.1)) (fun v => v.1 = -1) (fun _ => 0) (fun go v hv _ => ?_) _ (by rfl) (by omega)
  obtain ⟨i, ps, l⟩ := v
  have hv' : i = -1 := hv
  subst hv'
  rfl
 rw [m8 (by rw [h]; exact lO (by simp)), hl]
 repeat' split
 all_goals rfl
def isAt (c : PC) : Bool := decide (c.kind = 1) && decide ((c.datum.items.length : Int) = 0)
theorem oU (c : PC) : fP c = some (isAt c) := by
 unfold fP isAt
 by_cases h : c.kind = 1 <;> simp [h]
theorem pX (c : PC) : gA c = some (isAt c) := by
 unfold gA isAt
 by_cases h : c.kind = 1 <;> simp [h]
def nums9 (a : PVal) : Prop := a.kind = 3 → -999999999 ≤ a.number ∧ a.number ≤ 999999999
def plainV (a : PVal) : Prop := nums9 a ∧ a.kind ≠ 7
def arT (p : Int) : Int := if p = 6 ∨ p = 7 ∨ p = 8 ∨ p = 9 ∨ p = 10 ∨ p = 12 ∨ p = 13 then 1 else 2
theorem cases14 {p : Int} (h : 0 ≤ p ∧ p ≤ 13) : p = 0 ∨ p = 1 ∨ p = 2 ∨ p = 3 ∨ p = 4 ∨ p = 5 ∨ p = 6 ∨ p = 7 ∨ p = 8 ∨ p = 9 ∨ p = 10 ∨ p = 11 ∨ p = 12 ∨ p = 13 := by omega
theorem i_ArityOf_eq {p : Int} (h : 0 ≤ p ∧ p ≤ 13) : rB p = some (arT p) := by
 rcases cases14 h with rfl | rfl | rfl | rfl | rfl | rfl | rfl | rfl | rfl | rfl | rfl | rfl | rfl | rfl <;> rfl
theorem s_ArityOf_eq {p : Int} (h : 0 ≤ p ∧ p ≤ 13) : mG p = some (arT p) := by
 rcases cases14 h with rfl | rfl | rfl | rfl | rfl | rfl | rfl | rfl | rfl | rfl | rfl | rfl | rfl | rfl <;> rfl
theorem i_isPure_eq {p : Int} (h : 0 ≤ p ∧ p ≤ 13) : vV p = some (decide (p ≠ 5) && decide (p ≠ 13)) := by
 rcases cases14 h with rfl | rfl | rfl | rfl | rfl | rfl | rfl | rfl | rfl | rfl | rfl | rfl | rfl | rfl <;> rfl
def badT (x : LB) : PVal × LB := (PVal.mk 0 0 [], x ++ [58, 32, 98, 97, 100, 32, 97, 114, 103, 117, 109, 101, 110, 116])
def boolV (b : Bool) : PVal := if b = true then PVal.mk 2 1 [] else PVal.mk 2 0 []
theorem gI (b : Bool) : L8 b = some (boolV b) := by cases b <;> rfl
theorem Q2 (b : Bool) : bQ b = some (boolV b) := by cases b <;> rfl
theorem mul_in {a b : Int} (h1 : -999999999 ≤ a ∧ a ≤ 999999999) (h2 : -999999999 ≤ b ∧ b ≤ 999999999) : -9223372036854775808 ≤ a * b ∧ a * b ≤ 9223372036854775807 := by
 have e := Int.natAbs_mul a b
 have l : a.natAbs * b.natAbs ≤ 999999999 * 999999999 := Nat.mul_le_mul (by omega) (by omega)
 rw [← e] at l
 generalize a * b = z at l
 omega
theorem lim_eq (z : Int) (hz : I64 z) (v e : PVal × LB) : (if I64 z then if z < -999999999 then some e else if 999999999 < z then some e else some v else none) = bnd (if I64 z then if -999999999 ≤ z ∧ z ≤ 999999999 then some v else some e else none) fun x => some (x.1, x.2) := by
 rw [if_pos hz, if_pos hz]
 by_cases h1 : z < -999999999
 ·rw [if_pos h1, if_neg (by omega)]; rfl
 ·rw [if_neg h1]
  by_cases h2 : 999999999 < z
  ·rw [if_pos h2, if_neg (by omega)]; rfl
  ·rw [if_neg h2, if_pos (by omega)]; rfl
theorem two_eq {p : Int} (h : p = 0 ∨ p = 1 ∨ p = 2 ∨ p = 3 ∨ p = 4) (a b : PVal) (ha : plainV a) (hb : plainV b) : N6 p [a, b] [] = u7 p [a, b] [] := by
 have h1 := ha.1
 have h2 := hb.1
 unfold nums9 at h1 h2
 have n0 : nth [a, b] 0 = some a := rfl
 have n1 : nth [a, b] 1 = some b := rfl
 by_cases k1 : a.kind = 3
 ·by_cases k2 : b.kind = 3
  ·have h1 := h1 k1
   have h2 := h2 k2
   have hm := mul_in h1 h2
   rcases h with rfl | rfl | rfl | rfl | rfl
   all_goals
    unfold N6 u7 v9 o4
    simp only [g9, n0, n1]
    simp [nth, L4, t0, bI, k1, k2, gI, Q2, U9, inside, chk]
   ·exact lim_eq _ (lO (by omega)) _ _
   ·exact lim_eq _ (lO (by omega)) _ _
   ·exact lim_eq _ (lO hm) _ _
  ·rcases h with rfl | rfl | rfl | rfl | rfl
   all_goals
    unfold N6 u7 v9 o4
    simp only [g9, n0, n1]
    simp [nth, L4, t0, k1, k2, chk]
 ·rcases h with rfl | rfl | rfl | rfl | rfl
  all_goals
   unfold N6 u7 v9 o4
   simp only [g9, n0, n1]
   simp [nth, L4, t0, k1, chk]
theorem eq_eq (a b : PVal) : N6 11 [a, b] [] = u7 11 [a, b] [] := by
 have n0 : nth [a, b] 0 = some a := rfl
 have n1 : nth [a, b] 1 = some b := rfl
 unfold N6 u7 v9 o4
 simp only [g9, n0, n1]
 simp [nth, t0, F9, gI, Q2, chk]
theorem i_isFalse_eq (x : PVal) : lT x = some (decide (x.kind = 2) && decide (x.number = 0)) := by
 unfold lT
 by_cases h : x.kind = 2 <;> simp [h]
theorem fY (x : PVal) : iJ x = some (decide (x.kind = 2) && decide (x.number = 0)) := by
 unfold iJ
 by_cases h : x.kind = 2 <;> simp [h]
theorem one_eq {p : Int} (h : p = 6 ∨ p = 7 ∨ p = 8 ∨ p = 9 ∨ p = 10 ∨ p = 12) (a : PVal) (ha : plainV a) : N6 p [a] [] = u7 p [a] [] := by
 have n0 : nth [a] 0 = some a := rfl
 have k := ha.2
 rcases h with rfl | rfl | rfl | rfl | rfl | rfl
 all_goals
  unfold N6 u7 v9 o4
  simp only [g9, n0]
  simp [nth, L4, t0, F9, gI, Q2, i_isFalse_eq, fY, k, chk]
theorem app_eq {p : Int} (h : 0 ≤ p ∧ p ≤ 13) (h5 : p ≠ 5) (h13 : p ≠ 13) (args : List PVal) (hl : (args.length : Int) = arT p) (ha : ∀ a ∈ args, plainV a) : N6 p args [] = u7 p args [] := by
 unfold arT at hl
 by_cases h1 : p = 6 ∨ p = 7 ∨ p = 8 ∨ p = 9 ∨ p = 10 ∨ p = 12 ∨ p = 13
 ·rw [if_pos h1] at hl
  match args, hl, ha with
  | [a], _, ha => exact one_eq (by omega) a (ha a (by simp))
  | [], hl, _ => simp at hl
  | _ :: _ :: _, hl, _ => simp at hl; omega
 ·rw [if_neg h1] at hl
  match args, hl, ha with
  | [a, b], _, ha =>
   by_cases h11 : p = 11
   ·subst h11; exact eq_eq a b
   ·exact two_eq (by omega) a b (ha a (by simp)) (ha b (by simp))
  | [], hl, _ => simp at hl
  | [_], hl, _ => simp at hl
  | _ :: _ :: _ :: _, hl, _ => simp at hl; omega
theorem ag4 (z : Int) (hz : I64 z) (v e : PVal × LB) : ∃ a b, (bnd (if I64 z then if -999999999 ≤ z ∧ z ≤ 999999999 then some v else some e else none) fun x => some (x.1, x.2)) = some (a, b) := by
 rw [if_pos hz]
 split <;> exact ⟨_, _, rfl⟩
theorem two_some {p : Int} (h : p = 0 ∨ p = 1 ∨ p = 2 ∨ p = 3 ∨ p = 4) (a b : PVal) (ha : plainV a) (hb : plainV b) : ∃ r, u7 p [a, b] [] = some r := by
 have h1 := ha.1
 have h2 := hb.1
 unfold nums9 at h1 h2
 have n0 : nth [a, b] 0 = some a := rfl
 have n1 : nth [a, b] 1 = some b := rfl
 by_cases k1 : a.kind = 3
 ·by_cases k2 : b.kind = 3
  ·have h1 := h1 k1
   have h2 := h2 k2
   have hm := mul_in h1 h2
   rcases h with rfl | rfl | rfl | rfl | rfl
   all_goals
    unfold u7 o4
    simp only [g9, n0, n1]
    simp [nth, t0, bI, k1, k2, Q2, U9, inside, chk]
   ·exact ag4 _ (lO (by omega)) _ _
   ·exact ag4 _ (lO (by omega)) _ _
   ·exact ag4 _ (lO hm) _ _
  ·rcases h with rfl | rfl | rfl | rfl | rfl
   all_goals
    unfold u7 o4
    simp only [g9, n0, n1]
    simp [nth, t0, k1, k2, chk]
 ·rcases h with rfl | rfl | rfl | rfl | rfl
  all_goals
   unfold u7 o4
   simp only [g9, n0, n1]
   simp [nth, t0, k1, chk]
theorem eq_some (a b : PVal) : ∃ r, u7 11 [a, b] [] = some r := by
 have n0 : nth [a, b] 0 = some a := rfl
 have n1 : nth [a, b] 1 = some b := rfl
 unfold u7 o4
 simp only [g9, n0, n1]
 simp [nth, t0, F9, Q2, chk]
theorem one_some {p : Int} (h : p = 6 ∨ p = 7 ∨ p = 8 ∨ p = 9 ∨ p = 10 ∨ p = 12) (a : PVal) (ha : plainV a) : ∃ r, u7 p [a] [] = some r := by
 have n0 : nth [a] 0 = some a := rfl
 have k := ha.2
 rcases h with rfl | rfl | rfl | rfl | rfl | rfl
 all_goals
  unfold u7 o4
  simp only [g9, n0]
  simp [nth, t0, F9, Q2, fY, k, chk]
theorem app_some {p : Int} (h : 0 ≤ p ∧ p ≤ 13) (h5 : p ≠ 5) (h13 : p ≠ 13) (args : List PVal) (hl : (args.length : Int) = arT p) (ha : ∀ a ∈ args, plainV a) : ∃ r, u7 p args [] = some r := by
 unfold arT at hl
 by_cases h1 : p = 6 ∨ p = 7 ∨ p = 8 ∨ p = 9 ∨ p = 10 ∨ p = 12 ∨ p = 13
 ·rw [if_pos h1] at hl
  match args, hl, ha with
  | [a], _, ha => exact one_some (by omega) a (ha a (by simp))
  | [], hl, _ => simp at hl
  | _ :: _ :: _, hl, _ => simp at hl; omega
 ·rw [if_neg h1] at hl
  match args, hl, ha with
  | [a, b], _, ha =>
   by_cases h11 : p = 11
   ·subst h11; exact eq_some a b
   ·exact two_some (by omega) a b (ha a (by simp)) (ha b (by simp))
  | [], hl, _ => simp at hl
  | [_], hl, _ => simp at hl
  | _ :: _ :: _ :: _, hl, _ => simp at hl; omega
def failR : PC × Bool := (PC.mk 0 0 [] (PD.mk 0 0 ([] : LB) []) [], false)
theorem ac1 {L : (Int × List PVal → Option (PC × Bool)) → Int × List PVal → Option (PC × Bool)} (ks : List PC) (hn : ks.length ≤ 1048576) (F : List PVal → Option (PC × Bool)) (E : PD → List PPair → Option (PVal × List PPair)) (A : PC → Option Bool) (hA : ∀ x, A x = some (isAt x))
 (hE : ∀ x : PC, isAt x = true → E x.datum [] = some (atomV x.datum, []))
 (hL : ∀ go (i : Int) o, L go (i, o) = if i < (ks.length : Int) then bnd (nth ks i) fun x => bnd (A x) fun b => if b = true then bnd (E x.datum []) fun y => chk ((o.length + ([y.1] : List PVal).length) * 32 ≤ 140737488355328) <| chk (I64 (i + 1)) <| go (i + 1, o ++ ([y.1] : List PVal)) else some failR else F o) :
 itr L LF (0, []) = if ks.all isAt = true then F (ks.map fun x => atomV x.datum) else some failR := by
 rw [F4 (L := L) ks.length (fun i o => o.length = i) (fun i o => if (ks.drop i).all isAt = true then F (o ++ (ks.drop i).map fun x => atomV x.datum) else some failR) (by omega) (fun go i o hi ho hgo => ?_) (fun go o ho => ?_) (by simp)]
 ·simp
 ·rw [hL, if_pos (by omega), t9 hi, g9, hA, g9, List.drop_eq_getElem_cons hi, List.all_cons, List.map_cons]
  cases h : isAt ks[i]
  ·simp
  ·rw [if_pos rfl, hE _ h, g9, m8 (by simp; omega), m8 (by omega), hgo _ (by simp [ho]), Bool.true_and, List.append_assoc]; rfl
 ·rw [hL, if_neg (by omega), List.drop_length]; simp
def datR (n k : Int) : PC × Bool := (PC.mk 1 0 [] (PD.mk k n ([] : LB) []) [], true)
def resOf (r : PVal × LB) : PC × Bool := if r.2 = ([] : LB) then (if r.1.kind = 1 then datR 0 0 else if r.1.kind = 2 then datR r.1.number 3 else if r.1.kind = 3 then datR r.1.number 2 else failR) else failR
def appV (p : Int) (args : List PVal) : PVal × LB := (u7 p args []).getD (PVal.mk 0 0 [], [])
def avs (ks : List PC) : List PVal := ks.map fun x => atomV x.datum
def foldR (c : PC) : PC × Bool := if c.kind = 6 then (match c.kids with
 | [] => failR
 | f :: ks => if f.kind = 3 then (if (f.number ≠ 5 ∧ f.number ≠ 13) ∧ ((ks.length : Int) = arT f.number ∧ ks.all isAt = true) then resOf (appV f.number (avs ks)) else failR) else failR) else failR
theorem U5 : ∀ {ks : List PC} {x : PC}, okAlls ks = true → x ∈ ks → okAll x = true
 | d :: r, x, h, hx => by
  unfold okAlls at h
  rw [Bool.and_eq_true] at h
  rcases List.mem_cons.1 hx with rfl | hx
  ·exact h.1
  ·exact U5 h.2 hx
theorem aR {c : PC} (h : okAll c = true) : shapeOK c = true := by
 rw [okAll_eq] at h
 simp only [Bool.and_eq_true] at h
 exact h.1.1
theorem plain_of {c : PC} (h : okAll c = true) (ha : isAt c = true) : plainV (atomV c.datum) := by
 have hs := aR h
 unfold isAt at ha
 simp only [Bool.and_eq_true, decide_eq_true_eq] at ha
 unfold shapeOK at hs
 rw [if_pos ha.1] at hs
 simp only [Bool.and_eq_true] at hs
 have hd := hs.2.2.2.2
 unfold PD.valid at hd
 simp only [Bool.and_eq_true] at hd
 have ho := hd.2.2
 rw [PD.okAll_eq, Bool.and_eq_true] at ho
 have hn := ho.1
 unfold plainV nums9 atomV
 by_cases k1 : c.datum.kind = 1
 ·rw [if_pos k1]; exact ⟨fun h => by simp at h, by simp⟩
 ·by_cases k2 : c.datum.kind = 2
  ·rw [if_neg k1, if_pos k2]
   unfold PD.nodeOK at hn
   rw [if_neg (by omega), if_neg k1, if_pos k2] at hn
   unfold inside at hn
   simp only [Bool.and_eq_true, decide_eq_true_eq] at hn
   exact ⟨fun _ => ⟨hn.1.1, hn.1.2⟩, by simp⟩
  ·rw [if_neg k1, if_neg k2]
   split
   ·exact ⟨fun h => by simp at h, by simp⟩
   ·split
    ·exact ⟨fun h => by simp at h, by simp⟩
    ·exact ⟨fun h => by simp at h, by simp⟩
theorem qN {ks : List PC} (h : okAlls ks = true) (ha : ks.all isAt = true) : ∀ a ∈ avs ks, plainV a := fun a hx => by
 obtain ⟨x, hm, rfl⟩ := List.mem_map.1 hx
 exact plain_of (U5 h hm) (List.all_eq_true.1 ha x hm)
theorem rK {x : PC} (h : isAt x = true) : x.datum.items = [] := by
 unfold isAt at h
 simp only [Bool.and_eq_true, decide_eq_true_eq] at h
 exact List.length_eq_zero_iff.1 (by omega)
theorem RF_succ : RF = 18446744073709551615 + 1 := by rw [RF_eq]
theorem s_res_eq (r : PVal × LB) : (bnd (iL r.1) fun x9 => if r.2 = ([] : LB) then (if x9.2 = true then some ((PC.mk 1 0 [] x9.1 [] : PC), true) else some failR) else some failR) = some (resOf r) := by
 unfold iL resOf datR
 by_cases h : r.2 = [] <;> by_cases k1 : r.1.kind = 1 <;> by_cases k2 : r.1.kind = 2 <;> by_cases k3 : r.1.kind = 3 <;> simp [h, k1, k2, k3]
theorem i_res_eq (r : PVal × LB) : (if r.2 = ([] : LB) then (if r.1.kind = 1 then some ((PC.mk 1 0 [] (PD.mk 0 0 ([] : LB) []) [] : PC), true) else if r.1.kind = 2 then some (PC.mk 1 0 [] (PD.mk 3 r.1.number ([] : LB) []) [], true) else if r.1.kind = 3 then some (PC.mk 1 0 [] (PD.mk 2 r.1.number ([] : LB) []) [], true) else some failR) else some failR) = some (resOf r) := by
 unfold resOf datR
 by_cases h : r.2 = [] <;> by_cases k1 : r.1.kind = 1 <;> by_cases k2 : r.1.kind = 2 <;> by_cases k3 : r.1.kind = 3 <;> simp [h, k1, k2, k3]
theorem head_ok {c f : PC} {ks : List PC} (hv : okAll c = true) (hk : c.kids = f :: ks) (h3 : f.kind = 3) : (0 ≤ f.number ∧ f.number ≤ 13) ∧ okAlls ks = true := by
 rw [okAll_eq, Bool.and_eq_true] at hv
 have h := hv.2
 rw [hk] at h
 unfold okAlls at h
 rw [Bool.and_eq_true] at h
 refine ⟨?_, h.2⟩
 have hs := aR h.1
 unfold shapeOK at hs
 rw [if_neg (by omega), if_neg (by omega), if_pos h3] at hs
 unfold inside at hs
 simp only [Bool.and_eq_true, decide_eq_true_eq] at hs
 exact ⟨hs.2.2.2.2.1, hs.2.2.2.2.2⟩
theorem tI {c : PC} (hv : okAll c = true) (h6 : c.kind = 6) : ∃ f ks, c.kids = f :: ks := by
 have hs := aR hv
 unfold shapeOK at hs
 rw [if_neg (by omega), if_neg (by omega), if_neg (by omega), if_neg (by omega), if_neg (by omega), if_pos h6] at hs
 unfold inside at hs
 simp only [Bool.and_eq_true, decide_eq_true_eq] at hs
 cases hk : c.kids with
 | nil => rw [hk] at hs; have := hs.2.2.2.1; simp at this
 | cons f ks => exact ⟨f, ks, rfl⟩
theorem s_l9Fold_eq (c : PC) (hc : c.nice) (hv : okAll c = true) : sD c = some (foldR c) := by
 unfold sD foldR
 by_cases h6 : c.kind = 6
 ·obtain ⟨f, ks, hk⟩ := tI hv h6
  have hn := ((z4 c).1 hc).2.2.1
  rw [hk] at hn
  simp only [List.length_cons] at hn
  have n0 : nth c.kids 0 = some f := by rw [hk]; rfl
  have hd : c.kids.drop (1 : Int).toNat = ks := by rw [hk]; rfl
  rw [if_pos h6, if_pos h6, n0, g9, g9]
  rw [hk]
  dsimp only
  by_cases h3 : f.kind = 3
  ·obtain ⟨hr, hks⟩ := head_ok hv hk h3
   rw [if_pos h3, if_pos h3, m8 (by simp; omega)]
   rw [ac1 (L := qB c f) ks (by omega) (fun args => if f.number = 5 then some failR else if f.number = 13 then some failR else bnd (mG f.number) fun x7 => if (args.length : Int) = x7 then bnd (u7 f.number args []) fun x8 => bnd (iL x8.1) fun x9 => if x8.2 = ([] : LB) then (if x9.2 = true then some ((PC.mk 1 0 [] x9.1 [] : PC), true) else some failR) else some failR else some failR) (A6 RF) gA pX (fun x hx => by rw [RF_succ]; exact oJ _ _ (rK hx)) (fun go i o => by
    show cF c f go i o = _
    unfold cF
    rw [hd]; rfl)]
   rw [s_ArityOf_eq hr]
   by_cases ha : ks.all isAt = true
   ·rw [if_pos ha]
    by_cases h5 : f.number = 5
    ·rw [if_pos h5, if_neg (by simp [h5])]
    ·by_cases h13 : f.number = 13
     ·rw [if_neg h5, if_pos h13, if_neg (by simp [h13])]
     ·rw [if_neg h5, if_neg h13, g9]
      have hla : (avs ks).length = ks.length := by simp [avs]
      by_cases hl : (ks.length : Int) = arT f.number
      ·rw [if_pos (by rw [List.length_map]; exact hl), if_pos ⟨⟨h5, h13⟩, hl, ha⟩]
       obtain ⟨r, e⟩ := app_some hr h5 h13 (avs ks) (by rw [hla]; exact hl) (qN hks ha)
       have e2 : appV f.number (avs ks) = r := by unfold appV; rw [e]; rfl
       rw [e2]
       refine (congrArg (bnd · _) e).trans ?_
       rw [g9]
       exact s_res_eq r
      ·rw [if_neg (by rw [List.length_map]; exact hl), if_neg (fun h => hl h.2.1)]
   ·rw [if_neg ha, if_neg (fun h => ha h.2.2)]
  ·rw [if_neg h3, if_neg h3]; rfl
 ·rw [if_neg h6, if_neg h6]; rfl
theorem i_folded_eq (c : PC) (hc : c.nice) (hv : okAll c = true) : rD c = some (foldR c) := by
 unfold rD foldR
 by_cases h6 : c.kind = 6
 ·obtain ⟨f, ks, hk⟩ := tI hv h6
  have hn := ((z4 c).1 hc).2.2.1
  rw [hk] at hn
  simp only [List.length_cons] at hn
  have n0 : nth c.kids 0 = some f := by rw [hk]; rfl
  have hd : c.kids.drop (1 : Int).toNat = ks := by rw [hk]; rfl
  have hlen : c.kids.length = ks.length + 1 := by rw [hk]; rfl
  rw [if_pos h6, if_pos h6, n0, g9, g9, hlen]
  rw [hk]
  dsimp only
  by_cases h3 : f.kind = 3
  ·obtain ⟨hr, hks⟩ := head_ok hv hk h3
   rw [if_pos h3, if_pos h3, i_isPure_eq hr, g9, m8 (by omega), i_ArityOf_eq hr, g9, m8 (by omega)]
   rw [ac1 (L := oS c f) ks (by omega) (fun args => bnd (N6 f.number args []) fun x9 => if x9.2 = ([] : LB) then (if x9.1.kind = 1 then some ((PC.mk 1 0 [] (PD.mk 0 0 ([] : LB) []) [] : PC), true) else if x9.1.kind = 2 then some (PC.mk 1 0 [] (PD.mk 3 x9.1.number ([] : LB) []) [], true) else if x9.1.kind = 3 then some (PC.mk 1 0 [] (PD.mk 2 x9.1.number ([] : LB) []) [], true) else some failR) else some failR) (B3 RF) fP oU (fun x hx => by rw [RF_succ]; exact aa6 _ _ (rK hx)) (fun go i o => by
    show bY c f go i o = _
    unfold bY
    rw [hd]; rfl)]
   by_cases h5 : f.number = 5
   ·rw [if_neg (by simp [h5]), if_neg (by simp [h5])]; rfl
   ·by_cases h13 : f.number = 13
    ·rw [if_neg (by simp [h13]), if_neg (by simp [h13])]; rfl
    ·rw [if_pos (by simp [h5, h13])]
     have hla : (avs ks).length = ks.length := by simp [avs]
     by_cases hl : (ks.length : Int) = arT f.number
     ·rw [if_pos (by omega)]
      by_cases ha : ks.all isAt = true
      ·rw [if_pos ha, if_pos ⟨⟨h5, h13⟩, hl, ha⟩]
       obtain ⟨r, e⟩ := app_some hr h5 h13 (avs ks) (by rw [hla]; exact hl) (qN hks ha)
       have e2 : appV f.number (avs ks) = r := by unfold appV; rw [e]; rfl
       rw [e2]
       refine (congrArg (bnd · _) ((app_eq hr h5 h13 (avs ks) (by rw [hla]; exact hl) (qN hks ha)).trans e)).trans ?_
       rw [g9]
       exact i_res_eq r
      ·rw [if_neg ha, if_neg (fun h => ha h.2.2)]
     ·rw [if_neg (by omega), if_neg (fun h => hl h.2.1)]; rfl
  ·rw [if_neg h3, if_neg h3]; rfl
 ·rw [if_neg h6, if_neg h6]; rfl
theorem ak0 {c : PC} (h : c.valid = true) : okAll c = true := by
 unfold PC.valid tree at h
 simp only [Bool.and_eq_true] at h
 exact h.1.2.2
def bare (c : PC) : Prop := c.nice ∧ c.cnt = 0 ∧ wK c = 0
theorem bare_dat (k n a b : Int) : bare (PC.mk a b [] (PD.mk k n [] []) []) := ⟨(z4 _).2 ⟨by simp [PC.params], by simp [PC.datum, wD, wDs], by simp [PC.kids], trivial⟩, rfl, rfl⟩
end Go.Abs

namespace Go.Abs
open PC
theorem af9 (l : LI) (h : l.length ≤ 1048576) : gY l = some l := by unfold gY; rw [m8 (by omega)]
theorem pN : ∀ (n : Nat) (d : PD), d.cnt < n → d.small → D0 n d = some d
 | 0, d, h, _ => by omega
 | n + 1, d, h, hd => by
  show iC (D0 n) d = _
  unfold iC
  have hs := cK hd
  rw [rO (L := pM (D0 n) d) id (fun o => some (PD.mk d.kind d.number d.text o)) d.items hs (fun go i o hi ho => ?_) (fun go o => ?_)]
  ·rw [List.map_id]; cases d; rfl
  ·show U8 (D0 n) d go i o = _
   unfold U8
   rw [if_pos (by omega), t9 hi, g9, pN n _ (by have := (G1 hd hi).2; omega) (G1 hd hi).1, g9, m8 (by simp; omega), m8 (by omega)]; rfl
  ·show U8 (D0 n) d go _ o = _
   unfold U8
   rw [if_neg (by omega)]
theorem oC : ∀ (n : Nat), (∀ d : PD, 2 * d.cnt + 1 < n → d.small → q9 n d = some d) ∧ (∀ ds : List PD, 2 * PD.cnts ds < n → ds.length ≤ 1048576 → (∀ x ∈ ds, x.small) → A8 n ds = some ds)
 | 0 => ⟨fun d h => by omega, fun ds h => by omega⟩
 | n + 1 => by
  have ih := oC n
  refine ⟨fun d h hs => ?_, fun ds h hl hw => ?_⟩
  ·show aI (q9 n) (A8 n) d = _
   unfold aI
   have hc := PD.cnt_eq d
   rw [ih.2 d.items (by omega) (cK hs) (fun x hx => PD.small_item hs hx), g9]
   cases d; rfl
  ·show bX (q9 n) (A8 n) ds = _
   unfold bX
   rw [rO (L := jF (q9 n) ds) id some ds hl (fun go i o hi ho => ?_) (fun go o => ?_)]
   ·rw [List.map_id]
   ·show M3 (q9 n) ds go i o = _
    unfold M3
    rw [if_pos (by omega), t9 hi, g9, ih.1 _ (by have := PD.cnts_mem (List.getElem_mem hi); omega) (hw _ (List.getElem_mem hi)), g9, m8 (by simp; omega), m8 (by omega)]; rfl
   ·show M3 (q9 n) ds go _ o = _
    unfold M3
    rw [if_neg (by omega)]
theorem I6 : ∀ (n : Nat) (c : PC), c.cnt < n → c.nice → o9 n c = some c
 | 0, d, h, _ => by omega
 | n + 1, c, h, hc => by
  show bW (o9 n) c = _
  unfold bW
  have hc' := (z4 c).1 hc
  rw [af9 _ hc'.1, g9, (oC RF).1 _ (tO (G2 hc)) (G2 hc), g9]
  rw [rO (L := jE (o9 n) c c.params c.datum) id (fun o => some (PC.mk c.kind c.number c.params c.datum o)) c.kids hc'.2.2.1 (fun go i o hi ho => ?_) (fun go o => ?_)]
  ·rw [List.map_id]; cases c; rfl
  ·show M2 (o9 n) c c.params c.datum go i o = _
   unfold M2
   rw [if_pos (by omega), t9 hi, g9, I6 n _ (by have := P6 hi; omega) (A4 hc (List.getElem_mem hi)), g9, m8 (by simp; omega), m8 (by omega)]; rfl
  ·show M2 (o9 n) c c.params c.datum go _ o = _
   unfold M2
   rw [if_neg (by omega)]
theorem V3 : ∀ (n : Nat) (c : PC), c.cnt < n → c.nice → z9 n c = some c
 | 0, d, h, _ => by omega
 | n + 1, c, h, hc => by
  show iE (z9 n) c = _
  unfold iE
  have hc' := (z4 c).1 hc
  rw [eI _ (by omega), g9, pN RF _ (RF_cnt (G2 hc)) (G2 hc), g9]
  rw [rO (L := pS (z9 n) c c.params c.datum) id (fun o => some (PC.mk c.kind c.number c.params c.datum o)) c.kids hc'.2.2.1 (fun go i o hi ho => ?_) (fun go o => ?_)]
  ·rw [List.map_id]; cases c; rfl
  ·show V2 (z9 n) c c.params c.datum go i o = _
   unfold V2
   rw [if_pos (by omega), t9 hi, g9, V3 n _ (by have := P6 hi; omega) (A4 hc (List.getElem_mem hi)), g9, m8 (by simp; omega), m8 (by omega)]; rfl
  ·show V2 (z9 n) c c.params c.datum go _ o = _
   unfold V2
   rw [if_neg (by omega)]
theorem lD (x : Int) (s : PC) (hs : s.nice) (hsc : s.cnt ≤ 1048576) : ∀ (n : Nat) (c : PC), c.cnt < n → c.nice → m9 n c x s = some (subst x s c)
 | 0, d, h, _ => by omega
 | n + 1, c, h, hc => by
  show U4 (m9 n) c x s = _
  unfold U4 K9
  have hc' := (z4 c).1 hc
  have e : (if c.kind = 2 then (if decide (c.number = x) = true then bnd (o9 RF s) fun x6 => some x6 else bnd (o9 RF (PC.mk c.kind c.number c.params c.datum [])) fun x6 => itr (G8 (m9 n) c x s x6) LF (0, x6.kids)) else if false = true then bnd (o9 RF s) fun x6 => some x6 else bnd (o9 RF (PC.mk c.kind c.number c.params c.datum [])) fun x6 => itr (G8 (m9 n) c x s x6) LF (0, x6.kids)) = if c.kind = 2 ∧ c.number = x then bnd (o9 RF s) fun x6 => some x6 else bnd (o9 RF (PC.mk c.kind c.number c.params c.datum [])) fun x6 => itr (G8 (m9 n) c x s x6) LF (0, x6.kids) := by
   by_cases h1 : c.kind = 2 <;> by_cases h2 : c.number = x <;> simp [h1, h2]
  refine e.trans ?_
  have e2 : o9 RF (PC.mk c.kind c.number c.params c.datum []) = some (PC.mk c.kind c.number c.params c.datum []) := I6 RF _ (by rw [RF_eq]; show 0 < _; omega) ((z4 _).2 ⟨hc'.1, hc'.2.1, by show 0 ≤ _; omega, trivial⟩)
  rw [kJ, I6 RF s (RF_cntK (by omega)) hs, e2, g9, g9]
  split
  ·rfl
  ·show itr (G8 (m9 n) c x s (PC.mk c.kind c.number c.params c.datum [])) LF (0, []) = _
   rw [rO (L := G8 (m9 n) c x s (PC.mk c.kind c.number c.params c.datum [])) (subst x s) (fun o => some (PC.mk c.kind c.number c.params c.datum o)) c.kids hc'.2.2.1 (fun go i o hi ho => ?_) (fun go o => ?_)]
   ·show E8 (m9 n) c x s _ go i o = _
    unfold E8
    rw [if_pos (by omega), t9 hi, g9, lD x s hs hsc n _ (by have := P6 hi; omega) (A4 hc (List.getElem_mem hi)), g9, m8 (by simp; omega), m8 (by omega)]
   ·show E8 (m9 n) c x s _ go _ o = _
    unfold E8
    rw [if_neg (by omega)]; rfl
theorem set_map {α : Type} {xs : List α} {f : α → α} {i : Nat} (h : i < xs.length) : ((xs.take i).map f ++ xs.drop i).set i (f xs[i]) = (xs.take (i + 1)).map f ++ xs.drop (i + 1) := by
 rw [List.set_append_right _ _ (by simp; omega)]
 have e2 : i - ((xs.take i).map f).length = 0 := by simp; omega
 rw [e2, List.drop_eq_getElem_cons h, List.set_cons_zero, List.take_add_one, List.map_append, List.append_assoc]
 simp [List.getElem?_eq_getElem h]
theorem iN (x : Int) (s : PC) (hs : s.nice) (hsc : s.cnt ≤ 1048576) : ∀ (n : Nat) (c : PC), c.cnt < n → c.nice → c.cnt ≤ 1048576 → m6 n c x s = some (subst x s c)
 | 0, d, h, _, _ => by omega
 | n + 1, c, h, hc, hcc => by
  show R1 (m6 n) c x s = _
  unfold R1 J6
  have hc' := (z4 c).1 hc
  rw [kJ, V3 RF s (RF_cntK (by omega)) hs, V3 RF c (RF_cntK (by omega)) hc, g9, g9]
  have hl : itr (W8 (m6 n) c x s c) LF (0, c.kids) = some (PC.mk c.kind c.number c.params c.datum (c.kids.map (subst x s))) := by
   rw [F4 (L := W8 (m6 n) c x s c) c.kids.length (fun i o => o = (c.kids.take i).map (subst x s) ++ c.kids.drop i) (fun _ _ => some (PC.mk c.kind c.number c.params c.datum (c.kids.map (subst x s)))) (by omega) (fun go i o hi ho hgo => ?_) (fun go o ho => ?_) (by simp)]
   ·show D8 (m6 n) c x s c go i o = _
    unfold D8
    subst ho
    rw [if_pos (by omega), t9 hi, g9, iN x s hs hsc n _ (by have := P6 hi; omega) (A4 hc (List.getElem_mem hi)) (by have := P6 hi; omega), g9, t9 (by simp; omega), g9, m8 (by omega), Int.toNat_natCast, set_map hi, hgo _ rfl]
   ·show D8 (m6 n) c x s c go _ o = _
    unfold D8
    subst ho
    rw [if_neg (by omega)]; simp
  by_cases h1 : c.kind = 2 <;> by_cases h2 : c.number = x <;> simp [h1, h2, hl]
end Go.Abs

namespace Go.Abs
open PC
theorem yL {k n m : Int} {t : LB} (h : PD.nodeOK k n t m = true) : t.length ≤ 20 := by
 unfold PD.nodeOK at h
 by_cases k0 : k = 0
 ·rw [if_pos k0] at h
  simp only [Bool.and_eq_true, decide_eq_true_eq] at h
  rw [h.2]; simp
 ·rw [if_neg k0] at h
  by_cases k1 : k = 1
  ·rw [if_pos k1] at h
   simp only [Bool.and_eq_true, decide_eq_true_eq] at h
   have h2 := h.2.2
   unfold isSymbol headBad at h2
   simp only [Bool.and_eq_true, Bool.not_eq_true', Bool.or_eq_false_iff, decide_eq_false_iff_not] at h2
   have := h2.1.1.1.2
   omega
  ·rw [if_neg k1] at h
   by_cases k2 : k = 2
   ·rw [if_pos k2] at h
    simp only [Bool.and_eq_true, decide_eq_true_eq] at h
    rw [h.2.1]; simp
   ·rw [if_neg k2] at h
    by_cases k3 : k = 3
    ·rw [if_pos k3] at h
     simp only [Bool.and_eq_true, decide_eq_true_eq] at h
     rw [h.2.1]; simp
    ·rw [if_neg k3] at h
     by_cases k4 : k = 4
     ·rw [if_pos k4] at h
      unfold isText at h
      simp only [Bool.and_eq_true, decide_eq_true_eq] at h
      have := h.2.2.1
      omega
     ·rw [if_neg k4] at h; cases h
theorem dat_w : (∀ d : PD, d.okAll = true → wD d ≤ 20 + 21 * d.cnt) ∧ ∀ ds : List PD, PD.okAlls ds = true → wDs ds ≤ 21 * PD.cnts ds := by
 refine PD.ind (fun ds h ho => ?_) (fun d h ho => ?_)
 ·induction ds with
  | nil => simp [wDs]
  | cons x r ih =>
   unfold PD.okAlls at ho
   rw [Bool.and_eq_true] at ho
   have h1 := h x (by simp) ho.1
   have h2 := ih (fun y hy => h y (by simp [hy])) ho.2
   unfold wDs PD.cnts; omega
 ·rw [PD.okAll_eq, Bool.and_eq_true] at ho
  have h1 := yL ho.1
  have h2 := h ho.2
  rw [uC, PD.cnt_eq]; omega
theorem valid_w {d : PD} (h : d.valid = true) : wD d ≤ 12600 := by
 unfold PD.valid at h
 simp only [Bool.and_eq_true, decide_eq_true_eq] at h
 have := dat_w.1 d h.2.2
 omega
theorem eqb_zero {d : PD} (h : PD.eqb d zeroDat = true) : wD d = 0 := by
 obtain ⟨k, n, t, is⟩ := d
 unfold zeroDat PD.eqb at h
 simp only [Bool.and_eq_true, decide_eq_true_eq] at h
 obtain ⟨_, _, h3, h4⟩ := h
 cases is with
 | nil => subst h3; rfl
 | cons x r => unfold PD.eqbs at h4; cases h4
theorem shape_dat {c : PC} (h : shapeOK c = true) (k : ¬ c.kind = 1) : wD c.datum = 0 := by
 unfold shapeOK at h
 rw [Bool.and_eq_true] at h
 have h1 := h.1
 rw [decide_eq_false k, Bool.false_or] at h1
 exact eqb_zero h1
theorem vC {c : PC} (h : shapeOK c = true) : c.params.length ≤ 60 ∧ c.kids.length ≤ 60 ∧ wD c.datum ≤ 12600 := by
 have hd := shape_dat h
 unfold shapeOK at h
 rw [Bool.and_eq_true, Bool.and_eq_true] at h
 obtain ⟨_, _, h3⟩ := h
 unfold inside at h3
 by_cases k1 : c.kind = 1
 ·rw [if_pos k1] at h3
  simp only [Bool.and_eq_true, decide_eq_true_eq] at h3
  exact ⟨by omega, by omega, valid_w h3.2.2⟩
 ·have hd := hd k1
  rw [if_neg k1] at h3
  refine ⟨?_, ?_, by omega⟩
  all_goals
   repeat' split at h3
   all_goals first
    | (simp only [Bool.and_eq_true, decide_eq_true_eq] at h3; omega)
    | cases h3
theorem core_w : (∀ c : PC, okAll c = true → wK c ≤ 12660 + 12661 * c.cnt) ∧ ∀ ds : List PC, okAlls ds = true → wKs ds ≤ 12661 * cnts ds := by
 refine ind (fun ds h ho => ?_) (fun c h ho => ?_)
 ·induction ds with
  | nil => simp [wKs]
  | cons x r ih =>
   unfold okAlls at ho
   rw [Bool.and_eq_true] at ho
   have h1 := h x (by simp) ho.1
   have h2 := ih (fun y hy => h y (by simp [hy])) ho.2
   unfold wKs cnts; omega
 ·have h1 := vC (aR ho)
  rw [okAll_eq, Bool.and_eq_true] at ho
  have h2 := h ho.2
  rw [cL, cnt_eq]; omega
theorem bV : (∀ c : PC, okAll c = true → c.nice) ∧ ∀ ds : List PC, okAlls ds = true → nices ds := by
 refine ind (fun ds h ho => ?_) (fun c h ho => ?_)
 ·exact vY fun x hx => h x hx (U5 ho hx)
 ·have h1 := vC (aR ho)
  rw [okAll_eq, Bool.and_eq_true] at ho
  exact (z4 c).2 ⟨by omega, by omega, by omega, h ho.2⟩
theorem ok_w {c : PC} (h : okAll c = true) (hc : c.cnt ≤ 3000) : wK c ≤ 40000000 := by
 have := core_w.1 c h
 omega
theorem oF {c x : PC} (hv : okAll c = true) (hx : x ∈ c.kids) : okAll x = true := U5 (ks := c.kids) (by rw [okAll_eq, Bool.and_eq_true] at hv; exact hv.2) hx
end Go.Abs

namespace Go.Abs
open PC
def putAll (m : MI) (l : LI) : MI := l.foldl (fun m n => mput m n 1) m
theorem mget_put (m : MI) (n v k : Int) : mget (mput m n v) k = if k = n then v else mget m k := by
 unfold mget
 induction m with
 | nil =>
  by_cases h : k = n
  ·simp [mput, mlook, h]
  ·simp [mput, mlook, h]
 | cons p r ih =>
  by_cases h : n = p.1
  ·by_cases h2 : k = n
   ·simp [mput, mlook, h, h2]
   ·have : ¬ k = p.1 := fun e => h2 (e.trans h.symm)
    simp [mput, mlook, h, this]
  ·simp only [mput, if_neg h, mlook]
   by_cases h2 : k = p.1
   ·have : ¬ k = n := fun e => h (e.symm.trans h2)
    simp [h2, Ne.symm h]
   ·simp only [if_neg h2]; exact ih
theorem yJ : ∀ (l : LI) (m : MI) (k : Int), mget (putAll m l) k = if l.contains k = true then 1 else mget m k
 | [], m, k => rfl
 | n :: l, m, k => by
  show mget (putAll (mput m n 1) l) k = _
  rw [yJ l, mget_put, List.contains_cons]
  by_cases h1 : l.contains k = true
  ·rw [if_pos h1, if_pos (by rw [h1, Bool.or_true])]
  ·by_cases h2 : k = n
   ·simp [h2]
   ·have : ¬ (k == n) = true := by simpa using h2
    rw [if_neg h1, if_neg h2, if_neg (by simp only [Bool.or_eq_true, not_or]; exact ⟨this, h1⟩)]
theorem putAll_app (m : MI) (a b : LI) : putAll m (a ++ b) = putAll (putAll m a) b := by unfold putAll; rw [List.foldl_append]
theorem i_setOf_eq (ls : List (LI)) (h : ls.length ≤ 1048576) (hl : ∀ l ∈ ls, l.length ≤ 1000000000000) : xR ls = some (putAll [] ls.flatten) := by
 unfold xR
 rw [F4 (L := tB ls) ls.length (fun i m => m = putAll [] (ls.take i).flatten) (fun _ _ => some (putAll [] ls.flatten)) (by omega) (fun go i m hi hm hgo => ?_) (fun go m hm => ?_) (by simp [putAll])]
 ·show Y6 ls go i m = _
  unfold Y6
  subst hm
  rw [if_pos (by omega), t9 hi, g9]
  have hli := hl _ (List.getElem_mem hi)
  rw [F4 (L := tC (i : Int) go ls[i]) ls[i].length (fun j m => m = putAll [] ((ls.take i).flatten ++ ls[i].take j)) (fun _ _ => some (putAll [] ls.flatten)) (by omega) (fun go2 j m hj hm hgo2 => ?_) (fun go2 m hm => ?_) (by simp)]
  ·show Y7 (i : Int) go ls[i] go2 j m = _
   unfold Y7
   subst hm
   rw [if_pos (by omega), t9 hj, g9, m8 (by omega)]
   refine hgo2 _ ?_
   rw [List.take_add_one, List.getElem?_eq_getElem hj, ← List.append_assoc]
   exact (putAll_app [] _ [ls[i][j]]).symm
  ·show Y7 (i : Int) go ls[i] go2 _ m = _
   unfold Y7
   subst hm
   rw [if_neg (by omega), m8 (by omega)]
   refine hgo _ ?_
   rw [List.take_add_one, List.getElem?_eq_getElem hi, List.take_length, List.flatten_append]; simp
 ·show Y6 ls go _ m = _
  unfold Y6
  subst hm
  rw [if_neg (by omega), List.take_length]
def simpleIn (b : LI) (c : PC) : Bool := isAt c || (decide (c.kind = 3) || (decide (c.kind = 2) && !b.contains c.number))
theorem xS (c : PC) (b : LI) (m : MI) (hm : ∀ k, mget m k = if b.contains k = true then 1 else 0) : Z7 c m = some (simpleIn b c) := by
 unfold Z7 simpleIn
 rw [oU, g9, hm]
 cases isAt c <;> by_cases h3 : c.kind = 3 <;> by_cases h2 : c.kind = 2 <;> cases b.contains c.number <;> simp [h2, h3]
theorem aj1 (c : PC) (b : LI) (hb : b.length ≤ 1000000000000) : dC c b = some (simpleIn b c) := by
 unfold dC simpleIn
 rw [pX, g9, I9 _ _ (by omega), g9]
 cases isAt c <;> by_cases h3 : c.kind = 3 <;> by_cases h2 : c.kind = 2 <;> cases b.contains c.number <;> simp [h2, h3]
theorem qF {b : LI} {c : PC} (hv : okAll c = true) (h : simpleIn b c = true) : c.kids = [] := by
 have hs := aR hv
 unfold shapeOK at hs
 have hl : (c.kids.length : Int) = 0 := by
  by_cases k1 : c.kind = 1
  ·rw [if_pos k1] at hs; simp only [Bool.and_eq_true, decide_eq_true_eq] at hs; exact hs.2.2.2.1
  ·by_cases k2 : c.kind = 2
   ·rw [if_neg k1, if_pos k2] at hs; simp only [Bool.and_eq_true, decide_eq_true_eq] at hs; exact hs.2.2.2
   ·have k3 : c.kind = 3 := by
     unfold simpleIn isAt at h
     simpa [k1, k2] using h
    rw [if_neg k1, if_neg k2, if_pos k3] at hs; simp only [Bool.and_eq_true, decide_eq_true_eq] at hs; exact hs.2.2.2.1
 exact List.length_eq_zero_iff.1 (by omega)
theorem aj5 {b : LI} {c : PC} (hv : okAll c = true) (h : simpleIn b c = true) : wK c ≤ 64 := by
 have hk := qF hv h
 have hs := aR hv
 have hd := shape_dat hs
 unfold shapeOK at hs
 rw [cL, hk]
 have e0 : wKs [] = 0 := rfl
 rw [e0]
 by_cases k1 : c.kind = 1
 ·rw [if_pos k1] at hs
  simp only [Bool.and_eq_true, decide_eq_true_eq] at hs
  have hv := hs.2.2.2.2
  unfold PD.valid at hv
  simp only [Bool.and_eq_true] at hv
  have ho := hv.2.2
  rw [PD.okAll_eq, Bool.and_eq_true] at ho
  have ht := yL ho.1
  have hi : isAt c = true := by
   unfold simpleIn at h
   simpa [k1] using h
  have hp := hs.2.2.1
  rw [uC, rK hi]
  have e1 : wDs [] = 0 := rfl
  omega
 ·have hd := hd k1
  by_cases k2 : c.kind = 2
  ·rw [if_neg k1, if_pos k2] at hs; simp only [Bool.and_eq_true, decide_eq_true_eq] at hs; have := hs.2.2.1; omega
  ·have k3 : c.kind = 3 := by
    unfold simpleIn isAt at h
    simpa [k1, k2] using h
   rw [if_neg k1, if_neg k2, if_pos k3] at hs; simp only [Bool.and_eq_true, decide_eq_true_eq] at hs; have := hs.2.2.1; omega
def betaB (b : PC) (ps : LI) (ks : List PC) : PC := (ps.zip ks).foldl (fun b p => subst p.1 p.2 b) b
def betaOK (bx : LI) (ps : LI) (ks : List PC) : Bool := (ps.zip ks).all fun p => !bx.contains p.1 && simpleIn bx p.2
def betaR (c : PC) (bx : LI) : PC × Bool := match c.kids with
 | [] => failR
 | f :: ks => if f.kind = 5 ∧ f.params.length = ks.length then (if betaOK bx f.params ks = true then (match f.kids with | [] => failR | b :: _ => (betaB b f.params ks, true)) else failR) else failR
theorem zip_take {α β : Type} : ∀ (a : List α) (b : List β) (i : Nat) (ha : i < a.length) (hb : i < b.length), (a.zip b).take (i + 1) = (a.zip b).take i ++ [(a[i], b[i])]
 | a, b, i, ha, hb => by
  have h : i < (a.zip b).length := by simp; omega
  rw [List.take_add_one, List.getElem?_eq_getElem h]
  simp
theorem zip_drop {α β : Type} (a : List α) (b : List β) (i : Nat) (ha : i < a.length) (hb : i < b.length) : (a.zip b).drop i = (a[i], b[i]) :: (a.zip b).drop (i + 1) := by
 have h : i < (a.zip b).length := by simp; omega
 rw [List.drop_eq_getElem_cons h]
 simp
theorem eS {α β : Type} : ∀ (i : Nat) (a : List α) (b : List β), (a.zip b).take i = (a.take i).zip (b.take i)
 | 0, _, _ => rfl
 | i + 1, [], b => by simp
 | i + 1, a :: as, [] => by simp
 | i + 1, a :: as, b :: bs => by simp [eS i as bs]
structure Fine (n : Nat) (b : PC) : Prop where
 nice : b.nice
 cnt : b.cnt ≤ 3000
 w : wK b ≤ 40000000 + n * 192064
theorem beta_fine {b s : PC} {n : Nat} (x : Int) (hb : Fine n b) (hs : s.nice) (hk : s.kids = []) (hw : wK s ≤ 64) : Fine (n + 1) (subst x s b) := by
 have hc : s.cnt = 0 := by rw [cnt_eq, hk]; rfl
 have h1 := (subst_nice x s hs).1 b hb.nice
 have h2 := (subst_cnt x s hc).1 b
 have h3 := (subst_wK x s).1 b
 have h4 : (1 + b.cnt) * wK s ≤ 3001 * 64 := Nat.mul_le_mul (by have := hb.cnt; omega) hw
 have h5 := hb.cnt
 have h6 := hb.w
 exact ⟨h1, by omega, by omega⟩
structure Arg (x : PC) : Prop where
 nice : x.nice
 ok : okAll x = true
theorem sT {bx : LI} : ∀ (ps : LI) (ks : List PC) (b : PC) (n : Nat), Fine n b → (∀ x ∈ ks, Arg x) → betaOK bx ps ks = true → Fine (n + ps.length) (betaB b ps ks)
 | [], _, b, n, h, _, _ => h
 | p :: ps, [], b, n, h, _, _ => by
  have : betaB b (p :: ps) [] = b := rfl
  rw [this]
  exact ⟨h.nice, h.cnt, Nat.le_trans h.w (Nat.add_le_add_left (Nat.mul_le_mul_right _ (Nat.le_add_right _ _)) _)⟩
 | p :: ps, k :: ks, b, n, h, ha, ho => by
  have ho' : (!bx.contains p && simpleIn bx k) = true ∧ betaOK bx ps ks = true := by simpa [betaOK] using ho
  have ak := ha k (by simp)
  have hs : simpleIn bx k = true := by have := ho'.1; rw [Bool.and_eq_true] at this; exact this.2
  have := sT ps ks (subst p k b) (n + 1) (beta_fine p h ak.nice (qF ak.ok hs) (aj5 ak.ok hs)) (fun x hx => ha x (by simp [hx])) ho'.2
  rw [show n + 1 + ps.length = n + (p :: ps).length by simp; omega] at this
  exact this
theorem shape5 {f : PC} (hv : okAll f = true) (h5 : f.kind = 5) : f.params.length ≤ 8 ∧ ∃ b, f.kids = [b] := by
 have hs := aR hv
 unfold shapeOK at hs
 rw [if_neg (by omega), if_neg (by omega), if_neg (by omega), if_neg (by omega), if_pos h5] at hs
 simp only [Bool.and_eq_true, decide_eq_true_eq] at hs
 have h1 : (f.params.length : Int) ≤ 8 := by first | exact hs.2.2.1 | exact hs.2.2.2
 have h2 : (f.kids.length : Int) = 1 := by first | exact hs.2.2.2 | exact hs.2.2.1
 exact ⟨by omega, List.length_eq_one_iff.1 (by omega)⟩
theorem args_loop {R : Type} {L : (Int → Option R) → Int → Option R} (c : PC) (f : PC) (ks : List PC) (hk : c.kids = f :: ks) (hl : f.params.length = ks.length) (h8 : f.params.length ≤ 8) (bx : LI) (B : Int → Option Bool) (S : PC → Option Bool) (fl : R) (E : Option R)
 (hB : ∀ n, B n = some (bx.contains n)) (hS : ∀ x, S x = some (simpleIn bx x))
 (hL : ∀ go (i : Int), L go i = if i < (f.params.length : Int) then bnd (nth f.params i) fun n => bnd (B n) fun t => if t = true then some fl else chk (I64 (i + 1)) <| bnd (nth c.kids (i + 1)) fun x => bnd (S x) fun t => if t = true then chk (I64 (i + 1)) <| go (i + 1) else some fl else E) :
 itr L LF 0 = if betaOK bx f.params ks = true then E else some fl := by
 rw [dW (L := L) f.params.length (fun i => if ((f.params.zip ks).drop i).all (fun p => !bx.contains p.1 && simpleIn bx p.2) = true then E else some fl) (by omega) (fun go i hi hgo => ?_) (fun go => ?_)]
 ·rfl
 ·have hi2 : i < ks.length := by omega
  have hn : nth c.kids ((i : Int) + 1) = some ks[i] := by
   rw [hk, show ((i : Int) + 1) = ((i + 1 : Nat) : Int) by omega, t9 (by simp; omega)]; simp
  rw [hL, if_pos (by omega), t9 hi, g9, hB, g9, zip_drop _ _ _ hi hi2, List.all_cons]
  cases h1 : bx.contains f.params[i]
  ·rw [if_neg (by simp), m8 (by omega), hn, g9, hS, g9]
   cases h2 : simpleIn bx ks[i]
   ·simp
   ·rw [if_pos rfl, m8 (by omega), hgo]; rfl
  ·simp
 ·rw [hL, if_neg (by omega), List.drop_eq_nil_of_le (by simp; omega)]; rfl
theorem s_l9Beta_eq (c : PC) (bx : LI) (hc : c.nice) (hw : wK c ≤ 40000000) (hcc : c.cnt ≤ 3000) (hv : okAll c = true) (hb : bx.length ≤ 1000000000000) (h6 : c.kind = 6) : kG c bx = some (betaR c bx) := by
 unfold kG betaR
 obtain ⟨f, ks, hk⟩ := tI hv h6
 have hn := ((z4 c).1 hc).2.2.1
 have n0 : nth c.kids 0 = some f := by rw [hk]; rfl
 have hlen : c.kids.length = ks.length + 1 := by rw [hk]; rfl
 rw [if_pos h6, n0, g9]
 simp only [hk]
 by_cases h5 : f.kind = 5
 ·have hf : okAll f = true := U5 (ks := c.kids) (by rw [okAll_eq, Bool.and_eq_true] at hv; exact hv.2) (by rw [hk]; simp)
  obtain ⟨p8, b, hfk⟩ := shape5 hf h5
  rw [if_pos h5, g9, m8 (by simp; omega)]
  by_cases hl : f.params.length = ks.length
  ·rw [if_pos (by simp; omega), g9, if_pos ⟨h5, hl⟩]
   rw [args_loop (L := pZ c bx f) c f ks hk hl p8 bx (fun n => G4 bx n) (fun x => dC x bx) failR (bnd (nth f.kids 0) fun x8 => bnd (z9 RF x8) fun x9 => itr (kI c f) LF (0, x9)) (fun n => I9 _ _ (by omega)) (fun x => aj1 x bx hb) (fun go i => rfl)]
   by_cases ho : betaOK bx f.params ks = true
   ·rw [if_pos ho, if_pos ho, hfk]
    have hfin : f ∈ c.kids := by rw [hk]; simp
    have hbm : b ∈ f.kids := by rw [hfk]; simp
    have nf := A4 hc hfin
    have nb := A4 nf hbm
    have c1 := T8 hfin
    have c2 := T8 hbm
    have w1 := kM hfin
    have w2 := kM hbm
    have w3 := cL c
    have w4 := cL f
    have fb : Fine 0 b := ⟨nb, by omega, by omega⟩
    have ha : ∀ x ∈ ks, Arg x := fun x hx => by
     have hm : x ∈ c.kids := by rw [hk]; simp [hx]
     exact ⟨A4 hc hm, U5 (ks := c.kids) (by rw [okAll_eq, Bool.and_eq_true] at hv; exact hv.2) hm⟩
    have n00 : nth [b] 0 = some b := rfl
    rw [n00, g9, V3 RF b (RF_cntK (by omega)) nb, g9]
    dsimp only
    rw [F4 (L := kI c f) f.params.length (fun i o => o = betaB b (f.params.take i) (ks.take i)) (fun _ _ => some (betaB b f.params ks, true)) (by omega) (fun go i o hi hi2 hgo => ?_) (fun go o ho2 => ?_) (by simp [betaB])]
    ·show V8 c f go i o = _
     unfold V8
     have hik : i < ks.length := by omega
     have hnx : nth c.kids ((i : Int) + 1) = some ks[i] := by
      rw [hk, show ((i : Int) + 1) = ((i + 1 : Nat) : Int) by omega, t9 (by simp; omega)]; simp
     have hok : betaOK bx (f.params.take i) (ks.take i) = true := by
      unfold betaOK at ho ⊢
      rw [← eS]
      rw [List.all_eq_true] at ho ⊢
      exact fun p hp => ho p (List.mem_of_mem_take hp)
     have fi := sT (bx := bx) (f.params.take i) (ks.take i) b 0 fb (fun x hx => ha x (List.mem_of_mem_take hx)) hok
     have ak := ha ks[i] (List.getElem_mem hik)
     have hsk : simpleIn bx ks[i] = true := by
      unfold betaOK at ho
      rw [List.all_eq_true] at ho
      have := ho (f.params[i], ks[i]) (by rw [List.mem_iff_getElem]; exact ⟨i, by simp; omega, by simp⟩)
      rw [Bool.and_eq_true] at this
      exact this.2
     have hkc : (ks[i]).cnt ≤ 1048576 := by have := lL.1 ks[i]; have := aj5 ak.ok hsk; omega
     subst hi2
     rw [if_pos (by omega), t9 hi, g9, m8 (by omega), hnx, g9, iN _ _ ak.nice hkc RF _ (RF_cntK (by have := fi.cnt; omega)) fi.nice (by have := fi.cnt; omega), g9, m8 (by omega)]
     refine hgo _ ?_
     unfold betaB
     rw [← eS, ← eS, zip_take _ _ _ hi hik, List.foldl_append]; rfl
    ·show V8 c f go _ o = _
     unfold V8
     subst ho2
     rw [if_neg (by omega), List.take_length, show ks.take f.params.length = ks by rw [hl, List.take_length]]
   ·rw [if_neg ho, if_neg ho]
  ·rw [if_neg (by simp; omega), if_neg (fun h => hl h.2)]; rfl
 ·rw [if_neg h5, if_neg (fun h => h5 h.1)]; rfl
def pk (a : Int × Int × Int × Int × LB × LI × List PD × List PC) : PC := match a with
 | (k, n, dk, dn, dt, p, di, ks) => PC.mk k n p (PD.mk dk dn dt di) ks
def upk (c : PC) : Int × Int × Int × Int × LB × LI × List PD × List PC := (c.kind, c.number, c.datum.kind, c.datum.number, c.datum.text, c.params, c.datum.items, c.kids)
theorem pk_upk (c : PC) : pk (upk c) = c := by obtain ⟨k, n, p, d, ks⟩ := c; obtain ⟨a, b, t, i⟩ := d; rfl
theorem i_beta_eq (c : PC) (bx : LI) (m : MI) (hm : ∀ k, mget m k = if bx.contains k = true then 1 else 0) (hc : c.nice) (hw : wK c ≤ 40000000) (hcc : c.cnt ≤ 3000) (hv : okAll c = true) (f : PC) (ks : List PC) (hk : c.kids = f :: ks) (h5 : f.kind = 5) (hl : f.params.length = ks.length) :
 itr (aK c m f) LF 0 = some (betaR c bx) := by
 unfold betaR
 simp only [hk]
 have hn := ((z4 c).1 hc).2.2.1
 have hkl : ks.length + 1 ≤ 1048576 := by rw [hk] at hn; simpa using hn
 have hf : okAll f = true := U5 (ks := c.kids) (by rw [okAll_eq, Bool.and_eq_true] at hv; exact hv.2) (by rw [hk]; simp)
 obtain ⟨p8, b, hfk⟩ := shape5 hf h5
 rw [if_pos ⟨h5, hl⟩]
 rw [args_loop (L := aK c m f) c f ks hk hl p8 bx (fun n => some (bx.contains n)) (fun x => Z7 x m) failR (bnd (nth f.kids 0) fun x7 => bnd (o9 RF x7) fun x8 => itr (aL c f) LF (0, upk x8)) (fun n => rfl) (fun x => xS x bx m hm) (fun go i => by
  show Q7 c m f go i = _
  unfold Q7
  by_cases hi : i < (f.params.length : Int)
  ·rw [if_pos hi, if_pos hi]
   congr 1
   funext n
   rw [hm, g9]
   cases bx.contains n <;> rfl
  ·rw [if_neg hi, if_neg hi]; rfl)]
 by_cases ho : betaOK bx f.params ks = true
 ·rw [if_pos ho, if_pos ho, hfk]
  have hfin : f ∈ c.kids := by rw [hk]; simp
  have hbm : b ∈ f.kids := by rw [hfk]; simp
  have nf := A4 hc hfin
  have nb := A4 nf hbm
  have c1 := T8 hfin
  have c2 := T8 hbm
  have w1 := kM hfin
  have w2 := kM hbm
  have w3 := cL c
  have w4 := cL f
  have fb : Fine 0 b := ⟨nb, by omega, by omega⟩
  have ha : ∀ x ∈ ks, Arg x := fun x hx => by
   have hm : x ∈ c.kids := by rw [hk]; simp [hx]
   exact ⟨A4 hc hm, U5 (ks := c.kids) (by rw [okAll_eq, Bool.and_eq_true] at hv; exact hv.2) hm⟩
  have n00 : nth [b] 0 = some b := rfl
  rw [n00, g9, I6 RF b (RF_cntK (by omega)) nb, g9]
  dsimp only
  rw [F4 (L := aL c f) f.params.length (fun i o => pk o = betaB b (f.params.take i) (ks.take i)) (fun _ _ => some (betaB b f.params ks, true)) (by omega) (fun go i o hi hi2 hgo => ?_) (fun go o ho2 => ?_) (by rw [pk_upk]; rfl)]
  ·obtain ⟨k, n, dk, dn, dt, p, di, kk⟩ := o
   show G5 c f go i k n dk dn dt p di kk = _
   unfold G5
   have hik : i < ks.length := by omega
   have hnx : nth c.kids ((i : Int) + 1) = some ks[i] := by
    rw [hk, show ((i : Int) + 1) = ((i + 1 : Nat) : Int) by omega, t9 (by simp; omega)]; simp
   have hok : betaOK bx (f.params.take i) (ks.take i) = true := by
    unfold betaOK at ho ⊢
    rw [← eS]
    rw [List.all_eq_true] at ho ⊢
    exact fun p hp => ho p (List.mem_of_mem_take hp)
   have fi := sT (bx := bx) (f.params.take i) (ks.take i) b 0 fb (fun x hx => ha x (List.mem_of_mem_take hx)) hok
   have ak := ha ks[i] (List.getElem_mem hik)
   have hsk : simpleIn bx ks[i] = true := by
    unfold betaOK at ho
    rw [List.all_eq_true] at ho
    have := ho (f.params[i], ks[i]) (by rw [List.mem_iff_getElem]; exact ⟨i, by simp; omega, by simp⟩)
    rw [Bool.and_eq_true] at this
    exact this.2
   have hkc : (ks[i]).cnt ≤ 1048576 := by have := lL.1 ks[i]; have := aj5 ak.ok hsk; omega
   have hi2' : PC.mk k n p (PD.mk dk dn dt di) kk = betaB b (f.params.take i) (ks.take i) := hi2
   rw [if_pos (by omega), t9 hi, g9, m8 (by omega), hnx, g9, hi2', lD _ _ ak.nice hkc RF _ (RF_cntK (by have := fi.cnt; omega)) fi.nice, g9, m8 (by omega)]
   refine hgo (upk _) ?_
   rw [pk_upk]
   unfold betaB
   rw [← eS, ← eS, zip_take _ _ _ hi hik, List.foldl_append]; rfl
  ·obtain ⟨k, n, dk, dn, dt, p, di, kk⟩ := o
   show G5 c f go _ k n dk dn dt p di kk = _
   unfold G5
   have ho2' : PC.mk k n p (PD.mk dk dn dt di) kk = betaB b (f.params.take f.params.length) (ks.take f.params.length) := ho2
   rw [if_neg (by omega), ho2', List.take_length, show ks.take f.params.length = ks by rw [hl, List.take_length]]
 ·rw [if_neg ho, if_neg ho]
def idle (x : PC) : Bool := decide (x.kind = 1) || (decide (x.kind = 3) || decide (x.kind = 5))
theorem idle1 {x : PC} (h : x.kind = 1) : idle x = true := by unfold idle; rw [h]; rfl
theorem idle3 {x : PC} (h : x.kind = 3) : idle x = true := by unfold idle; rw [h]; rfl
theorem idle5 {x : PC} (h : x.kind = 5) : idle x = true := by unfold idle; rw [h]; rfl
theorem idle0 {x : PC} (h1 : ¬ x.kind = 1) (h3 : ¬ x.kind = 3) (h5 : ¬ x.kind = 5) : idle x = false := by unfold idle; rw [decide_eq_false h1, decide_eq_false h3, decide_eq_false h5]; rfl
def keeps (n : Nat) (l : List PC) : List PC := (l.zipIdx.filter fun p => decide (p.2 + 1 = n) || !idle p.1).map (·.1)
theorem tG (n : Nat) (l : List PC) (i : Nat) (h : i < l.length) : keeps n (l.take (i + 1)) = keeps n (l.take i) ++ (if (decide (i + 1 = n) || !idle l[i]) = true then [l[i]] else []) := by
 unfold keeps
 rw [List.take_add_one, List.getElem?_eq_getElem h, List.zipIdx_append, List.filter_append, List.map_append]
 congr 1
 have e : (l.take i).length = i := by simp; omega
 simp only [Option.toList_some, List.zipIdx_cons, List.zipIdx_nil, e, Nat.zero_add]
 by_cases hc : (decide (i + 1 = n) || !idle l[i]) = true
 ·rw [if_pos hc, List.filter_cons_of_pos (by simpa using hc)]; rfl
 ·rw [if_neg hc, List.filter_cons_of_neg (by simpa using hc)]; rfl
theorem yC {n : Nat} {l : List PC} {x : PC} (h : x ∈ keeps n l) : x ∈ l := by
 unfold keeps at h
 obtain ⟨p, hp, rfl⟩ := List.mem_map.1 h
 exact List.fst_mem_of_mem_zipIdx (List.mem_filter.1 hp).1
theorem rL (n : Nat) (l : List PC) : (keeps n l).length ≤ l.length := by
 unfold keeps
 rw [List.length_map]
 exact Nat.le_trans (List.length_filter_le _ _) (by simp)
theorem keeps_w (n : Nat) : ∀ (l : List PC) (k : Nat), wKs ((((l.zipIdx k).filter fun p => decide (p.2 + 1 = n) || !idle p.1).map (·.1))) ≤ wKs l
 | [], _ => by simp
 | x :: l, k => by
  have ih := keeps_w n l (k + 1)
  rw [List.zipIdx_cons]
  by_cases hc : (decide (k + 1 = n) || !idle x) = true
  ·rw [List.filter_cons_of_pos (by simpa using hc), List.map_cons]
   show 1 + wK x + wKs _ ≤ 1 + wK x + wKs l
   omega
  ·rw [List.filter_cons_of_neg (by simpa using hc)]
   show wKs _ ≤ 1 + wK x + wKs l
   omega
def seqR (ks : List PC) : PC := match ks with
 | [x] => x
 | ks => PC.mk 8 0 [] (PD.mk 0 0 ([] : LB) []) ks
theorem aj3 {ks : List PC} (h : ks.length = 1) : nth ks 0 = some (seqR ks) := by
 obtain ⟨x, rfl⟩ := List.length_eq_one_iff.1 h; rfl
theorem sK {ks : List PC} (h : ks.length ≠ 1) : seqR ks = PC.mk 8 0 [] (PD.mk 0 0 ([] : LB) []) ks := by
 match ks, h with
 | [], _ => rfl
 | [x], h => exact absurd rfl h
 | _ :: _ :: _, _ => rfl
def dropR (c : PC) : PC × Bool := if (keeps c.kids.length c.kids).length = c.kids.length then failR else (seqR (keeps c.kids.length c.kids), true)
def flat (ks : List PC) : List PC := ks.flatMap fun x => if x.kind = 8 then x.kids else [x]
theorem flat_take (ks : List PC) (i : Nat) (h : i < ks.length) : flat (ks.take (i + 1)) = flat (ks.take i) ++ (if (ks[i]).kind = 8 then (ks[i]).kids else [ks[i]]) := by
 unfold flat
 rw [List.take_add_one, List.getElem?_eq_getElem h, List.flatMap_append]; simp
theorem flat_id : ∀ (ks : List PC), (∀ x ∈ ks, x.kind ≠ 8) → flat ks = ks
 | [], _ => rfl
 | x :: r, h => by
  have ih := flat_id r fun y hy => h y (by simp [hy])
  unfold flat at ih ⊢
  rw [List.flatMap_cons, ih, if_neg (h x (by simp))]; rfl
theorem sA (ks : List PC) (h : ks.length ≤ 1048576) (hk : ∀ x ∈ ks, x.kids.length ≤ 1048576) : kC ks = some (seqR (flat ks)) := by
 unfold kC
 rw [F4 (L := pT ks) ks.length (fun i o => o = flat (ks.take i) ∧ o.length ≤ 1048576 * i) (fun _ _ => some (seqR (flat ks))) (by omega) (a := []) (fun go i o hi ho hgo => ?_) (fun go o ho => ?_) ⟨rfl, by simp⟩]
 ·show V4 ks go i o = _
  unfold V4 bG
  obtain ⟨h1, h2⟩ := ho
  have hki := hk _ (List.getElem_mem hi)
  have hft := flat_take ks i hi
  rw [if_pos (by omega), t9 hi, g9]
  by_cases h8 : (ks[i]).kind = 8
  ·rw [if_pos h8] at hft
   rw [if_pos h8, m8 (by omega), m8 (by omega)]
   exact hgo _ ⟨by rw [hft, h1], by rw [List.length_append]; omega⟩
  ·rw [if_neg h8] at hft
   rw [if_neg h8, m8 (by simp; omega), m8 (by omega)]
   exact hgo _ ⟨by rw [hft, h1], by rw [List.length_append]; simp; omega⟩
 ·show V4 ks go _ o = _
  unfold V4
  obtain ⟨h1, h2⟩ := ho
  rw [List.take_length] at h1
  rw [if_neg (by omega), ← h1]
  by_cases h1 : o.length = 1
  ·rw [if_pos (by omega), aj3 h1, g9]
  ·rw [if_neg (by omega), sK h1]
theorem s_l5Flat_eq (ks : List PC) (h : ks.length ≤ 1048576) (hk : ∀ x ∈ ks, x.kids.length ≤ 1048576) (h8 : ∀ x ∈ ks, x.kind ≠ 8) : kC ks = some (seqR ks) := by
 rw [sA ks h hk, flat_id ks h8]
theorem s_l9Drop_eq (c : PC) (hc : c.nice) (hcc : c.cnt ≤ 3000) (hv : okAll c = true) (h8 : c.kind = 8) : gB c = some (seqR (keeps c.kids.length c.kids), decide ((keeps c.kids.length c.kids).length < c.kids.length)) := by
 unfold gB
 have hn := ((z4 c).1 hc).2.2.1
 have hq : ∀ x ∈ c.kids, x.kind ≠ 8 := by
  rw [okAll_eq, Bool.and_eq_true, Bool.and_eq_true] at hv
  have := hv.1.2
  unfold seqOK at this
  rw [h8] at this
  simp only [decide_true, Bool.not_true, Bool.false_or, List.all_eq_true] at this
  exact fun x hx => by simpa using this x hx
 rw [if_pos h8]
 rw [F4 (L := qA c) c.kids.length (fun i o => o = keeps c.kids.length (c.kids.take i)) (fun _ _ => some (seqR (keeps c.kids.length c.kids), decide ((keeps c.kids.length c.kids).length < c.kids.length))) (by omega) (fun go i o hi ho hgo => ?_) (fun go o ho => ?_) (by simp [keeps])]
 ·show W0 c go i o = _
  unfold W0 V9 bJ
  have nk := A4 hc (List.getElem_mem hi)
  have ck := P6 hi
  have hol : o.length ≤ i := by subst ho; exact Nat.le_trans (rL _ _) (by simp; omega)
  have hI : ∀ x : Option (PC × Bool), chk (I64 ((i : Int) + 1)) x = x := fun x => m8 (by omega)
  rw [if_pos (by omega), t9 hi, g9, m8 (by omega), V3 RF _ (RF_cntK (by omega)) nk, g9, m8 (by simp; omega), hI, hI]
  have hg := hgo _ (tG c.kids.length c.kids i hi).symm
  rw [← ho] at hg
  by_cases hl : i + 1 = c.kids.length
  ·rw [if_pos (by omega), if_pos rfl]
   rw [decide_eq_true hl, Bool.true_or, if_pos rfl] at hg
   exact hg
  ·rw [if_neg (by omega)]
   rw [decide_eq_false hl, Bool.false_or] at hg
   by_cases k1 : (c.kids[i]).kind = 1
   ·rw [if_pos k1, if_neg (by decide)]
    rw [idle1 k1, if_neg (by decide), List.append_nil] at hg
    exact hg
   ·by_cases k3 : (c.kids[i]).kind = 3
    ·rw [if_neg k1, if_pos k3, if_neg (by decide)]
     rw [idle3 k3, if_neg (by decide), List.append_nil] at hg
     exact hg
    ·rw [if_neg k1, if_neg k3]
     by_cases k5 : (c.kids[i]).kind = 5
     ·rw [decide_eq_true k5, if_neg (by decide)]
      rw [idle5 k5, if_neg (by decide), List.append_nil] at hg
      exact hg
     ·rw [decide_eq_false k5, if_pos (by decide)]
      rw [idle0 k1 k3 k5, if_pos (by decide)] at hg
      exact hg
 ·show W0 c go _ o = _
  unfold W0
  rw [List.take_length] at ho
  subst ho
  have hkl := rL c.kids.length c.kids
  rw [if_neg (by omega), s_l5Flat_eq _ (by omega) (fun x hx => ((z4 x).1 (A4 hc (yC hx))).2.2.1) (fun x hx => hq x (yC hx)), g9]
  congr 2
  rw [decide_eq_decide]; omega
theorem i_drop_eq (c : PC) (hc : c.nice) (hcc : c.cnt ≤ 3000) : itr (aM c) LF (0, []) = some (dropR c) := by
 have hn := ((z4 c).1 hc).2.2.1
 rw [F4 (L := aM c) c.kids.length (fun i o => o = keeps c.kids.length (c.kids.take i)) (fun _ _ => some (dropR c)) (by omega) (fun go i o hi ho hgo => ?_) (fun go o ho => ?_) (by simp [keeps])]
 ·show G6 c go i o = _
  unfold G6 J9 N9 N8
  have nk := A4 hc (List.getElem_mem hi)
  have ck := P6 hi
  have hol : o.length ≤ i := by subst ho; exact Nat.le_trans (rL _ _) (by simp; omega)
  rw [if_pos (by omega), t9 hi, g9, m8 (by omega), I6 RF _ (RF_cntK (by omega)) nk, g9, m8 (by simp; omega)]
  have hg := hgo _ (tG c.kids.length c.kids i hi).symm
  rw [← ho] at hg
  have hdl : decide (((i : Int) + 1) = (c.kids.length : Int)) = decide (i + 1 = c.kids.length) := by rw [decide_eq_decide]; omega
  have hI : ∀ x : Option (PC × Bool), chk (I64 ((i : Int) + 1)) x = x := fun x => m8 (by omega)
  simp only [hdl, hI]
  by_cases hl : i + 1 = c.kids.length
  ·rw [decide_eq_true hl, Bool.true_or, if_pos rfl] at hg
   simp [hl, hg]
  ·rw [decide_eq_false hl, Bool.false_or] at hg
   by_cases k1 : (c.kids[i]).kind = 1
   ·rw [idle1 k1, if_neg (by decide), List.append_nil] at hg
    simp [hl, k1, hg]
   ·by_cases k3 : (c.kids[i]).kind = 3
    ·rw [idle3 k3, if_neg (by decide), List.append_nil] at hg
     simp [hl, k3, hg]
    ·by_cases k5 : (c.kids[i]).kind = 5
     ·rw [idle5 k5, if_neg (by decide), List.append_nil] at hg
      simp [hl, k5, hg]
     ·rw [idle0 k1 k3 k5, if_pos (by decide)] at hg
      simp [k1, k3, k5, hg]
 ·show G6 c go _ o = _
  unfold G6 dropR
  rw [List.take_length] at ho
  subst ho
  rw [if_neg (by omega)]
  by_cases h1 : (keeps c.kids.length c.kids).length = c.kids.length
  ·rw [if_pos (by omega), if_pos h1]; rfl
  ·rw [if_neg (by omega), if_neg h1]
   by_cases h2 : (keeps c.kids.length c.kids).length = 1
   ·rw [if_pos (by omega), aj3 h2, g9]
   ·rw [if_neg (by omega), sK h2]
def offD (d : PD) : Bool := decide (d.kind = 3) && decide (d.number = 0)
def ifR (c : PC) : PC × Bool := match c.kids with
 | a :: b :: d :: _ => if isAt a = true then (if offD a.datum = true then (d, true) else (b, true)) else failR
 | _ => failR
theorem shape7 {c : PC} (hv : okAll c = true) (h7 : c.kind = 7) : ∃ a b d, c.kids = [a, b, d] := by
 have hs := aR hv
 unfold shapeOK at hs
 rw [if_neg (by omega), if_neg (by omega), if_neg (by omega), if_neg (by omega), if_neg (by omega), if_neg (by omega), if_pos h7] at hs
 simp only [Bool.and_eq_true, decide_eq_true_eq] at hs
 have h : (c.kids.length : Int) = 3 := by first | exact hs.2.2.2 | exact hs.2.2.1
 match hk : c.kids, h with
 | [a, b, d], _ => exact ⟨a, b, d, rfl⟩
 | [], h => simp at h
 | [_], h => simp at h
 | [_, _], h => simp at h
 | _ :: _ :: _ :: _ :: _, h => simp at h; omega
theorem atomV_off (d : PD) : (decide ((atomV d).kind = 2) && decide ((atomV d).number = 0)) = offD d := by
 unfold atomV offD
 by_cases k1 : d.kind = 1
 ·rw [if_pos k1, k1]; rfl
 ·by_cases k2 : d.kind = 2
  ·rw [if_neg k1, if_pos k2, k2]; rfl
  ·by_cases k3 : d.kind = 3
   ·rw [if_neg k1, if_neg k2, if_pos k3, k3]; rfl
   ·rw [if_neg k1, if_neg k2, if_neg k3, decide_eq_false k3]
    by_cases k4 : d.kind = 4
    ·rw [if_pos k4]; rfl
    ·rw [if_neg k4]; rfl
def nodeR (c : PC) (bx : LI) : PC × Bool := if c.kind = 6 then (if (foldR c).2 = true then ((foldR c).1, true) else betaR c bx) else if c.kind = 7 then ifR c else if c.kind = 8 then dropR c else failR
theorem fail_2 {r : PC × Bool} (h : r.2 = true) : r = (r.1, true) := by rw [← h]
theorem xU (c : PC) (bx : LI) (m : MI) (hm : ∀ k, mget m k = if bx.contains k = true then 1 else 0) (hc : c.nice) (hw : wK c ≤ 40000000) (hcc : c.cnt ≤ 3000) (hv : okAll c = true) : Z8 c m = some (nodeR c bx) := by
 unfold Z8 nodeR
 have hn := ((z4 c).1 hc).2.2.1
 by_cases h6 : c.kind = 6
 ·obtain ⟨f, ks, hk⟩ := tI hv h6
  have n0 : nth c.kids 0 = some f := by rw [hk]; rfl
  have hlen : c.kids.length = ks.length + 1 := by rw [hk]; rfl
  rw [if_pos h6, if_pos h6, i_folded_eq c hc hv, g9]
  by_cases hf : (foldR c).2 = true
  ·rw [if_pos hf, if_pos hf]
  ·rw [if_neg hf, if_neg hf, n0, g9, m8 (by omega)]
   by_cases h5 : f.kind = 5
   ·rw [if_pos h5]
    by_cases hl : f.params.length = ks.length
    ·rw [if_pos (by omega), i_beta_eq c bx m hm hc hw hcc hv f ks hk h5 hl]
    ·rw [if_neg (by omega)]
     unfold betaR
     simp only [hk]
     rw [if_neg (fun h => hl h.2)]; rfl
   ·rw [if_neg h5]
    unfold betaR
    simp only [hk]
    rw [if_neg (fun h => h5 h.1)]; rfl
 ·rw [if_neg h6, if_neg h6]
  by_cases h7 : c.kind = 7
  ·rw [if_pos h7, if_pos h7]
   obtain ⟨a, b, d, hk⟩ := shape7 hv h7
   have e0 : nth c.kids 0 = some a := by rw [hk]; rfl
   have e1 : nth c.kids 1 = some b := by rw [hk]; rfl
   have e2 : nth c.kids 2 = some d := by rw [hk]; rfl
   have ma : b ∈ c.kids := by rw [hk]; simp
   have mb : d ∈ c.kids := by rw [hk]; simp
   have ca := T8 ma
   have cb := T8 mb
   unfold N7 ifR
   rw [e0, e1, e2, g9, oU, g9, g9, g9, g9, I6 RF b (RF_cntK (by omega)) (A4 hc ma), I6 RF d (RF_cntK (by omega)) (A4 hc mb), g9, g9]
   simp only [hk]
   unfold offD
   cases isAt a
   ·rfl
   ·rw [if_pos rfl, if_pos rfl]
    by_cases k3 : a.datum.kind = 3
    ·rw [if_pos k3, decide_eq_true k3, Bool.true_and]
     cases decide (a.datum.number = 0) <;> rfl
    ·rw [if_neg k3, decide_eq_false k3, Bool.false_and]; rfl
  ·rw [if_neg h7, if_neg h7]
   by_cases h8 : c.kind = 8
   ·rw [if_pos h8, if_pos h8, i_drop_eq c hc hcc]
   ·rw [if_neg h8, if_neg h8]; rfl
theorem foldR_not {c : PC} (h : ¬ c.kind = 6) : foldR c = failR := by unfold foldR; rw [if_neg h]
theorem s_l9Node_eq (c : PC) (bx : LI) (hc : c.nice) (hw : wK c ≤ 40000000) (hcc : c.cnt ≤ 3000) (hv : okAll c = true) (hb : bx.length ≤ 1000000000000) :
 ∃ r, sE c bx = some r ∧ r.2 = (nodeR c bx).2 ∧ (r.2 = true → r = nodeR c bx) ∧ (r.2 = false → nodeR c bx = failR) := by
 unfold sE nodeR
 rw [s_l9Fold_eq c hc hv, g9]
 by_cases h6 : c.kind = 6
 ·rw [if_pos h6]
  by_cases hf : (foldR c).2 = true
  ·rw [if_pos hf, if_pos hf]
   exact ⟨_, rfl, rfl, fun _ => rfl, fun h => by cases h⟩
  ·rw [if_neg hf, if_neg hf, s_l9Beta_eq c bx hc hw hcc hv hb h6, g9, if_neg (show ¬ c.kind = 7 by omega)]
   unfold W1 gB
   rw [if_neg (show ¬ false = true by decide), if_neg (show ¬ c.kind = 8 by omega)]
   by_cases hbt : (betaR c bx).2 = true
   ·rw [if_pos hbt]
    exact ⟨_, rfl, hbt.symm, fun _ => (fail_2 hbt).symm, fun h => by cases h⟩
   ·rw [if_neg hbt]
    have e : betaR c bx = failR := by
     unfold betaR at hbt ⊢
     split
     ·rfl
     ·rename_i f ks hk
      rw [hk] at hbt
      dsimp only at hbt
      split
      ·rename_i h1
       rw [if_pos h1] at hbt
       split
       ·rename_i h2
        rw [if_pos h2] at hbt
        split
        ·rfl
        ·rename_i hfk
         rw [hfk] at hbt
         exact absurd rfl hbt
       ·rfl
      ·rfl
    rw [e]
    exact ⟨_, rfl, rfl, fun h => (by cases h), fun _ => rfl⟩
 ·have hfl : ¬ failR.2 = true := by decide
  have hbeta : kG c bx = some failR := by unfold kG; rw [if_neg h6]; rfl
  rw [foldR_not h6, if_neg hfl, hbeta, g9, if_neg hfl, if_neg h6]
  by_cases h7 : c.kind = 7
  ·rw [if_pos h7, if_pos h7]
   obtain ⟨a, b, d, hk⟩ := shape7 hv h7
   have e0 : nth c.kids 0 = some a := by rw [hk]; rfl
   have e1 : nth c.kids 1 = some b := by rw [hk]; rfl
   have e2 : nth c.kids 2 = some d := by rw [hk]; rfl
   have ma : b ∈ c.kids := by rw [hk]; simp
   have mb : d ∈ c.kids := by rw [hk]; simp
   have ca := T8 ma
   have cb := T8 mb
   unfold W1 gB ifR
   rw [e0, g9, pX, g9]
   simp only [hk]
   by_cases ha : isAt a = true
   ·rw [if_pos ha, if_pos ha]
    rw [g9, RF_succ, oJ _ _ (rK ha), g9, fY, g9, atomV_off, ← RF_succ]
    rw [← hk, e1, e2, g9, g9, V3 RF b (RF_cntK (by omega)) (A4 hc ma), V3 RF d (RF_cntK (by omega)) (A4 hc mb), g9, g9]
    cases offD a.datum
    ·exact ⟨_, rfl, rfl, fun _ => rfl, fun h => by cases h⟩
    ·exact ⟨_, rfl, rfl, fun _ => rfl, fun h => by cases h⟩
   ·rw [if_neg ha, if_neg ha, if_neg (show ¬ c.kind = 8 by omega), g9]
    exact ⟨_, rfl, rfl, fun h => (by cases h), fun _ => rfl⟩
  ·rw [if_neg h7, if_neg h7]
   unfold W1
   rw [if_neg (show ¬ false = true by decide)]
   by_cases h8 : c.kind = 8
   ·rw [if_pos h8, s_l9Drop_eq c hc hcc hv h8, g9]
    unfold dropR
    have hkl := rL c.kids.length c.kids
    by_cases hl : (keeps c.kids.length c.kids).length = c.kids.length
    ·rw [if_pos hl]
     have hd : decide ((keeps c.kids.length c.kids).length < c.kids.length) = false := decide_eq_false (by omega)
     refine ⟨_, rfl, hd, fun h => ?_, fun _ => rfl⟩
     dsimp only at h; rw [hd] at h; cases h
    ·rw [if_neg hl]
     have hd : decide ((keeps c.kids.length c.kids).length < c.kids.length) = true := decide_eq_true (by omega)
     refine ⟨_, rfl, hd, fun _ => by rw [hd], fun h => ?_⟩
     dsimp only at h; rw [hd] at h; cases h
   ·rw [if_neg h8]
    unfold gB
    rw [if_neg h8, g9]
    exact ⟨_, rfl, rfl, fun h => (by cases h), fun _ => rfl⟩
theorem zQ {c : PC} (h : c.valid = true) : c.cnt ≤ 3000 := by
 unfold PC.valid tree at h
 simp only [Bool.and_eq_true, decide_eq_true_eq] at h
 omega
end Go.Abs

namespace Go.Abs
open PC
def shapeN (k n : Int) (p : LI) (d : PD) (m : Int) : Bool :=
 (decide (k = 1) || PD.eqb d zeroDat) && ((decide (n = 0) || ((decide (k = 2) || decide (k = 4)) || decide (k = 3))) &&
 (if k = 1 then decide ((p.length : Int) = 0) && (decide (m = 0) && d.valid)
 else if k = 2 then decide ((p.length : Int) = 0) && decide (m = 0)
 else if k = 3 then decide ((p.length : Int) = 0) && (decide (m = 0) && inside n 0 13)
 else if k = 4 then decide ((p.length : Int) = 0) && decide (m = 1)
 else if k = 5 then decide ((p.length : Int) ≤ 8) && decide (m = 1)
 else if k = 6 then decide ((p.length : Int) = 0) && inside m 1 9
 else if k = 7 then decide ((p.length : Int) = 0) && decide (m = 3)
 else if k = 8 then decide ((p.length : Int) = 0) && inside m 2 60
 else if k = 9 then inside (p.length : Int) 1 60 && inside m 1 60
 else if k = 10 then decide ((p.length : Int) = 0) && decide (m = 1)
 else if k = 11 then decide ((p.length : Int) = 1) && decide (m = 1)
 else false))
theorem shape_len (k n : Int) (p : LI) (d : PD) (a b : List PC) (h : a.length = b.length) : shapeOK (.mk k n p d a) = shapeOK (.mk k n p d b) := by
 have e : ∀ ks : List PC, shapeOK (.mk k n p d ks) = shapeN k n p d (ks.length : Int) := fun _ => rfl
 rw [e, e, h]
theorem simple_not8 {b : LI} {c : PC} (h : simpleIn b c = true) : c.kind ≠ 8 := fun h8 => by
 unfold simpleIn isAt at h
 rw [h8] at h
 simp at h
theorem subst_kind8 {x : Int} {s y : PC} (hs : s.kind ≠ 8) (hy : y.kind ≠ 8) : (subst x s y).kind ≠ 8 := by
 rw [kJ]
 split
 ·exact hs
 ·exact hy
theorem subst_ok (x : Int) (s : PC) (hs : okAll s = true) (h8 : s.kind ≠ 8) : (∀ c : PC, okAll c = true → okAll (subst x s c) = true) ∧ ∀ ds : List PC, okAlls ds = true → okAlls (substs x s ds) = true := by
 refine ind (fun ds h ho => ?_) (fun d h ho => ?_)
 ·induction ds with
  | nil => rfl
  | cons y r ih =>
   unfold okAlls at ho
   rw [Bool.and_eq_true] at ho
   unfold substs okAlls
   rw [h y (by simp) ho.1, ih (fun y hy => h y (by simp [hy])) ho.2]; rfl
 ·rw [kJ]
  split
  ·exact hs
  ·rw [okAll_eq] at ho ⊢
   simp only [Bool.and_eq_true] at ho ⊢
   refine ⟨⟨?_, ?_⟩, ?_⟩
   ·obtain ⟨k, n, p, e, ks⟩ := d
    rw [← ho.1.1]
    exact shape_len _ _ _ _ _ _ (List.length_map _)
   ·have h2 := ho.1.2
    unfold seqOK at h2 ⊢
    rw [Bool.or_eq_true] at h2 ⊢
    rcases h2 with h2 | h2
    ·exact Or.inl h2
    ·refine Or.inr ?_
     show (d.kids.map _).all _ = true
     rw [List.all_eq_true] at h2 ⊢
     intro y hy
     obtain ⟨z, hz, rfl⟩ := List.mem_map.1 hy
     have := h2 z hz
     simp only [Bool.not_eq_true', decide_eq_false_iff_not] at this ⊢
     exact subst_kind8 h8 this
   ·have := h ho.2
    rw [bM] at this
    exact this
theorem betaB_ok {bx : LI} : ∀ (ps : LI) (ks : List PC) (b : PC), okAll b = true → (∀ x ∈ ks, okAll x = true) → betaOK bx ps ks = true → okAll (betaB b ps ks) = true ∧ (betaB b ps ks).cnt ≤ b.cnt
 | [], _, b, h, _, _ => ⟨h, Nat.le_refl _⟩
 | p :: ps, [], b, h, _, _ => ⟨h, Nat.le_refl _⟩
 | p :: ps, k :: ks, b, h, ha, ho => by
  have ho' : (!bx.contains p && simpleIn bx k) = true ∧ betaOK bx ps ks = true := by simpa [betaOK] using ho
  have hk := ha k (by simp)
  have hs : simpleIn bx k = true := by have := ho'.1; rw [Bool.and_eq_true] at this; exact this.2
  have hkk := qF hk hs
  have h1 := (subst_ok p k hk (simple_not8 hs)).1 b h
  have h2 := (subst_cnt p k (by rw [cnt_eq, hkk]; rfl)).1 b
  have := betaB_ok ps ks (subst p k b) h1 (fun x hx => ha x (by simp [hx])) ho'.2
  exact ⟨this.1, Nat.le_trans this.2 h2⟩
def goodV (v : PVal) : Prop := (v.kind = 3 → -999999999 ≤ v.number ∧ v.number ≤ 999999999) ∧ (v.kind = 2 → v.number = 0 ∨ v.number = 1)
theorem wQ (b : Bool) : goodV (boolV b) := by unfold goodV boolV; cases b <;> simp
theorem ag3 (z : Int) (hz : I64 z) (t : LB) (ht : t ≠ []) : ∃ r, (bnd (if I64 z then if -999999999 ≤ z ∧ z ≤ 999999999 then some (PVal.mk 3 z [], ([] : LB)) else some (PVal.mk 0 0 [], t) else none) fun x => some (x.1, x.2)) = some r ∧ (r.2 = [] → goodV r.1) := by
 rw [if_pos hz]
 split
 ·rename_i h
  exact ⟨_, rfl, fun _ => ⟨fun _ => h, fun h => by cases h⟩⟩
 ·exact ⟨_, rfl, fun h => absurd h ht⟩
theorem two_good {p : Int} (h : p = 0 ∨ p = 1 ∨ p = 2 ∨ p = 3 ∨ p = 4) (a b : PVal) (ha : plainV a) (hb : plainV b) : ∃ r, u7 p [a, b] [] = some r ∧ (r.2 = [] → goodV r.1) := by
 have h1 := ha.1
 have h2 := hb.1
 unfold nums9 at h1 h2
 have n0 : nth [a, b] 0 = some a := rfl
 have n1 : nth [a, b] 1 = some b := rfl
 by_cases k1 : a.kind = 3
 ·by_cases k2 : b.kind = 3
  ·have h1 := h1 k1
   have h2 := h2 k2
   have hm := mul_in h1 h2
   rcases h with rfl | rfl | rfl | rfl | rfl
   all_goals
    unfold u7 o4
    simp only [g9, n0, n1]
    simp [nth, t0, bI, k1, k2, Q2, U9, inside, chk, wQ, -Prod.exists]
   ·exact ag3 _ (lO (by omega)) _ (by decide)
   ·exact ag3 _ (lO (by omega)) _ (by decide)
   ·exact ag3 _ (lO hm) _ (by decide)
  ·rcases h with rfl | rfl | rfl | rfl | rfl
   all_goals
    unfold u7 o4
    simp only [g9, n0, n1]
    simp [nth, t0, k1, k2, chk]
 ·rcases h with rfl | rfl | rfl | rfl | rfl
  all_goals
   unfold u7 o4
   simp only [g9, n0, n1]
   simp [nth, t0, k1, chk]
theorem eq_good (a b : PVal) : ∃ r, u7 11 [a, b] [] = some r ∧ (r.2 = [] → goodV r.1) := by
 have n0 : nth [a, b] 0 = some a := rfl
 have n1 : nth [a, b] 1 = some b := rfl
 unfold u7 o4
 simp only [g9, n0, n1]
 simp [nth, t0, F9, Q2, chk, wQ]
theorem one_good {p : Int} (h : p = 6 ∨ p = 7 ∨ p = 8 ∨ p = 9 ∨ p = 10 ∨ p = 12) (a : PVal) (ha : plainV a) : ∃ r, u7 p [a] [] = some r ∧ (r.2 = [] → goodV r.1) := by
 have n0 : nth [a] 0 = some a := rfl
 have k := ha.2
 rcases h with rfl | rfl | rfl | rfl | rfl | rfl
 all_goals
  unfold u7 o4
  simp only [g9, n0]
  simp [nth, t0, F9, Q2, fY, k, chk, wQ]
theorem app_good {p : Int} (h : 0 ≤ p ∧ p ≤ 13) (h5 : p ≠ 5) (h13 : p ≠ 13) (args : List PVal) (hl : (args.length : Int) = arT p) (ha : ∀ a ∈ args, plainV a) : ∃ r, u7 p args [] = some r ∧ (r.2 = [] → goodV r.1) := by
 unfold arT at hl
 by_cases h1 : p = 6 ∨ p = 7 ∨ p = 8 ∨ p = 9 ∨ p = 10 ∨ p = 12 ∨ p = 13
 ·rw [if_pos h1] at hl
  match args, hl, ha with
  | [a], _, ha => exact one_good (by omega) a (ha a (by simp))
  | [], hl, _ => simp at hl
  | _ :: _ :: _, hl, _ => simp at hl; omega
 ·rw [if_neg h1] at hl
  match args, hl, ha with
  | [a, b], _, ha =>
   by_cases h11 : p = 11
   ·subst h11; exact eq_good a b
   ·exact two_good (by omega) a b (ha a (by simp)) (ha b (by simp))
  | [], hl, _ => simp at hl
  | [_], hl, _ => simp at hl
  | _ :: _ :: _ :: _, hl, _ => simp at hl; omega
theorem dat_ok' {n k : Int} (h : k = 0 ∧ n = 0 ∨ k = 2 ∧ -999999999 ≤ n ∧ n ≤ 999999999 ∨ k = 3 ∧ (n = 0 ∨ n = 1)) : okAll (datR n k).1 = true := by
 have hd : PD.nodeOK k n [] 0 = true := by
  unfold PD.nodeOK inside
  rcases h with ⟨rfl, rfl⟩ | ⟨rfl, h1, h2⟩ | ⟨rfl, h⟩
  ·rfl
  ·simp [h1, h2]
  ·rcases h with rfl | rfl <;> rfl
 have hv : (PD.mk k n ([] : LB) []).valid = true := by
  unfold PD.valid
  rw [PD.okAll_eq]
  show (decide (((0 : Nat) : Int) + 1 ≤ 600) && (decide ((0 : Int) + 1 ≤ 20) && (PD.nodeOK k n [] 0 && true))) = true
  rw [hd]; rfl
 unfold datR
 rw [okAll_eq]
 show ((shapeOK _ && seqOK _) && true) = true
 have h1 : seqOK (PC.mk 1 0 [] (PD.mk k n ([] : LB) []) []) = true := rfl
 rw [h1, Bool.and_true, Bool.and_true]
 unfold shapeOK
 show ((true || _) && ((true || _) && (if (1 : Int) = 1 then (true && (true && (PD.mk k n ([] : LB) []).valid)) else _))) = true
 rw [if_pos rfl, hv]; rfl
theorem foldR_good {c : PC} (hv : okAll c = true) (h : (foldR c).2 = true) : okAll (foldR c).1 = true ∧ (foldR c).1.cnt + 1 ≤ c.cnt := by
 unfold foldR at h ⊢
 by_cases h6 : c.kind = 6
 ·obtain ⟨f, ks, hk⟩ := tI hv h6
  have hc : 1 ≤ c.cnt := by rw [cnt_eq, hk]; unfold cnts; omega
  rw [if_pos h6] at h ⊢
  rw [hk] at h ⊢
  dsimp only at h ⊢
  by_cases h3 : f.kind = 3
  ·obtain ⟨hr, hks⟩ := head_ok hv hk h3
   rw [if_pos h3] at h ⊢
   split
   ·rename_i ho
    rw [if_pos ho] at h
    have hla : (avs ks).length = ks.length := by simp [avs]
    obtain ⟨r, e, hg⟩ := app_good hr ho.1.1 ho.1.2 (avs ks) (by rw [hla]; exact ho.2.1) (qN hks ho.2.2)
    have e2 : appV f.number (avs ks) = r := by unfold appV; rw [e]; rfl
    rw [e2] at h ⊢
    unfold resOf at h ⊢
    by_cases ht : r.2 = ([] : LB)
    ·have hg := hg ht
     rw [if_pos ht] at h ⊢
     by_cases k1 : r.1.kind = 1
     ·rw [if_pos k1]; exact ⟨dat_ok' (Or.inl ⟨rfl, rfl⟩), hc⟩
     ·rw [if_neg k1] at h ⊢
      by_cases k2 : r.1.kind = 2
      ·rw [if_pos k2]; exact ⟨dat_ok' (Or.inr (Or.inr ⟨rfl, hg.2 k2⟩)), hc⟩
      ·rw [if_neg k2] at h ⊢
       by_cases k3 : r.1.kind = 3
       ·rw [if_pos k3]; exact ⟨dat_ok' (Or.inr (Or.inl ⟨rfl, hg.1 k3⟩)), hc⟩
       ·rw [if_neg k3] at h; cases h
    ·rw [if_neg ht] at h; cases h
   ·rename_i ho
    rw [if_neg ho] at h; cases h
  ·rw [if_neg h3] at h; cases h
 ·rw [if_neg h6] at h; cases h
theorem keeps_ne {l : List PC} (h : l ≠ []) : keeps l.length l ≠ [] := by
 have hp : 0 < l.length := List.length_pos_iff.2 h
 have := tG l.length l (l.length - 1) (by omega)
 rw [show l.length - 1 + 1 = l.length by omega, List.take_length, decide_eq_true rfl, Bool.true_or, if_pos rfl] at this
 rw [this]; simp
theorem ad1 (n : Nat) : ∀ (l : List PC) (k : Nat), (((l.zipIdx k).filter fun p => decide (p.2 + 1 = n) || !idle p.1).map (·.1)).length ≤ l.length ∧ cnts (((l.zipIdx k).filter fun p => decide (p.2 + 1 = n) || !idle p.1).map (·.1)) + (l.length - (((l.zipIdx k).filter fun p => decide (p.2 + 1 = n) || !idle p.1).map (·.1)).length) ≤ cnts l
 | [], _ => by simp [cnts]
 | x :: l, k => by
  have ih := ad1 n l (k + 1)
  rw [List.zipIdx_cons]
  by_cases hc : (decide (k + 1 = n) || !idle x) = true
  ·rw [List.filter_cons_of_pos (by simpa using hc), List.map_cons, List.length_cons, List.length_cons]
   unfold cnts
   dsimp only
   omega
  ·rw [List.filter_cons_of_neg (by simpa using hc), List.length_cons]
   have e : cnts (x :: l) = 1 + x.cnt + cnts l := rfl
   rw [e]
   omega
theorem rR : ∀ {ds : List PC}, (∀ x ∈ ds, okAll x = true) → okAlls ds = true
 | [], _ => rfl
 | d :: r, h => by
  unfold okAlls
  rw [h d (by simp), rR fun x hx => h x (by simp [hx])]; rfl
theorem shape8 {c : PC} (hv : okAll c = true) (h8 : c.kind = 8) : (c.params = [] ∧ c.number = 0 ∧ c.datum = zeroDat) ∧ (2 ≤ c.kids.length ∧ c.kids.length ≤ 60) ∧ ∀ x ∈ c.kids, x.kind ≠ 8 := by
 have hs := aR hv
 have hq : seqOK c = true := by
  rw [okAll_eq, Bool.and_eq_true, Bool.and_eq_true] at hv
  exact hv.1.2
 refine ⟨?_, ?_, ?_⟩
 ·unfold shapeOK named at hs
  rw [if_neg (by omega), if_neg (by omega), if_neg (by omega), if_neg (by omega), if_neg (by omega), if_neg (by omega), if_neg (by omega), if_pos h8] at hs
  simp only [Bool.and_eq_true, Bool.or_eq_true, decide_eq_true_eq] at hs
  obtain ⟨h1, h2, h3⟩ := hs
  have e1 : PD.eqb c.datum zeroDat = true := by
   rcases h1 with h1 | h1
   ·omega
   ·exact h1
  have e2 : c.number = 0 := by
   rcases h2 with h2 | h2
   ·exact h2
   ·omega
  have e3 : (c.params.length : Int) = 0 := h3.1
  refine ⟨List.length_eq_zero_iff.1 (by omega), e2, ?_⟩
  generalize c.datum = d at e1
  obtain ⟨k, n, t, is⟩ := d
  unfold zeroDat PD.eqb at e1
  simp only [Bool.and_eq_true, decide_eq_true_eq] at e1
  obtain ⟨rfl, rfl, rfl, h4⟩ := e1
  cases is with
  | nil => rfl
  | cons x r => unfold PD.eqbs at h4; cases h4
 ·unfold shapeOK inside at hs
  rw [if_neg (by omega), if_neg (by omega), if_neg (by omega), if_neg (by omega), if_neg (by omega), if_neg (by omega), if_neg (by omega), if_pos h8] at hs
  simp only [Bool.and_eq_true, decide_eq_true_eq] at hs
  have := hs.2.2.2
  omega
 ·unfold seqOK at hq
  rw [h8] at hq
  simp only [decide_true, Bool.not_true, Bool.false_or, List.all_eq_true] at hq
  exact fun x hx => by simpa using hq x hx
theorem seq_ok {ks : List PC} (h2 : 2 ≤ ks.length) (h60 : ks.length ≤ 60) (ho : okAlls ks = true) (h8 : ∀ x ∈ ks, x.kind ≠ 8) : okAll (PC.mk 8 0 [] zeroDat ks) = true := by
 rw [okAll_eq]
 show ((shapeOK (PC.mk 8 0 [] zeroDat ks) && seqOK (PC.mk 8 0 [] zeroDat ks)) && okAlls ks) = true
 have h1 : seqOK (PC.mk 8 0 [] zeroDat ks) = true := by
  unfold seqOK
  rw [Bool.or_eq_true]
  refine Or.inr ?_
  show ks.all _ = true
  rw [List.all_eq_true]
  intro x hx
  simpa using h8 x hx
 rw [ho, h1, Bool.and_true, Bool.and_true]
 unfold shapeOK
 show ((false || true) && ((true || _) && (true && inside (ks.length : Int) 2 60))) = true
 unfold inside
 simp; omega
theorem nodeR_good {c : PC} (bx : LI) (hv : okAll c = true) (h : (nodeR c bx).2 = true) : okAll (nodeR c bx).1 = true ∧ (nodeR c bx).1.cnt + 1 ≤ c.cnt := by
 unfold nodeR at h ⊢
 by_cases h6 : c.kind = 6
 ·rw [if_pos h6] at h ⊢
  by_cases hf : (foldR c).2 = true
  ·rw [if_pos hf]; exact foldR_good hv hf
  ·rw [if_neg hf] at h ⊢
   unfold betaR at h ⊢
   obtain ⟨f, ks, hk⟩ := tI hv h6
   simp only [hk] at h ⊢
   by_cases h5 : f.kind = 5 ∧ f.params.length = ks.length
   ·rw [if_pos h5] at h ⊢
    by_cases ho : betaOK bx f.params ks = true
    ·rw [if_pos ho]
     have hfin : f ∈ c.kids := by rw [hk]; simp
     have hf := oF hv hfin
     obtain ⟨p8, b, hfk⟩ := shape5 hf h5.1
     rw [hfk]
     have hbm : b ∈ f.kids := by rw [hfk]; simp
     have c1 := T8 hfin
     have c2 := T8 hbm
     have := betaB_ok f.params ks b (oF hf hbm) (fun x hx => oF hv (by rw [hk]; simp [hx])) ho
     exact ⟨this.1, by have := this.2; show (betaB b f.params ks).cnt + 1 ≤ _; omega⟩
    ·rw [if_neg ho] at h; cases h
   ·rw [if_neg h5] at h; cases h
 ·rw [if_neg h6] at h ⊢
  by_cases h7 : c.kind = 7
  ·rw [if_pos h7] at h ⊢
   obtain ⟨a, b, d, hk⟩ := shape7 hv h7
   have ma : b ∈ c.kids := by rw [hk]; simp
   have mb : d ∈ c.kids := by rw [hk]; simp
   have c1 := T8 ma
   have c2 := T8 mb
   unfold ifR at h ⊢
   simp only [hk] at h ⊢
   by_cases hi : isAt a = true
   ·rw [if_pos hi]
    by_cases hd : offD a.datum = true
    ·rw [if_pos hd]; exact ⟨oF hv mb, c2⟩
    ·rw [if_neg hd]; exact ⟨oF hv ma, c1⟩
   ·rw [if_neg hi] at h; cases h
  ·rw [if_neg h7] at h ⊢
   by_cases h8 : c.kind = 8
   ·rw [if_pos h8] at h ⊢
    unfold dropR at h ⊢
    by_cases hl : (keeps c.kids.length c.kids).length = c.kids.length
    ·rw [if_pos hl] at h; cases h
    ·rw [if_neg hl]
     have hs := shape8 hv h8
     have hkc := ad1 c.kids.length c.kids 0
     have hm : ∀ x ∈ keeps c.kids.length c.kids, x ∈ c.kids := fun x hx => yC hx
     have hne := keeps_ne (l := c.kids) (fun e => by rw [e] at hs; have := hs.2.1.1; simp at this)
     have hkc1 : (keeps c.kids.length c.kids).length ≤ c.kids.length := hkc.1
     have hkc2 : cnts (keeps c.kids.length c.kids) + (c.kids.length - (keeps c.kids.length c.kids).length) ≤ cnts c.kids := hkc.2
     have hpos : 0 < (keeps c.kids.length c.kids).length := List.length_pos_iff.2 hne
     dsimp only
     by_cases h1 : (keeps c.kids.length c.kids).length = 1
     ·have h2 := aj3 h1
      have h3 : seqR (keeps c.kids.length c.kids) ∈ keeps c.kids.length c.kids := List.mem_of_getElem? (Y2 h2).2.2
      exact ⟨oF hv (hm _ h3), T8 (hm _ h3)⟩
     ·rw [sK h1]
      refine ⟨seq_ok (by omega) (by omega) (rR fun x hx => oF hv (hm x hx)) fun x hx => hs.2.2 x (hm x hx), ?_⟩
      show cnts (keeps c.kids.length c.kids) + 1 ≤ c.cnt
      rw [cnt_eq]; omega
   ·rw [if_neg h8] at h; cases h
mutual
def passR (bx : LI) : PC → PC × Int
 | .mk k n p d ks =>
  if k = 8 ∧ 60 < (flat (passRs bx ks).1).length then (.mk k n p d ks, 0)
  else if (nodeR (.mk k n p d (if k = 8 then flat (passRs bx ks).1 else (passRs bx ks).1)) bx).2 = true then ((nodeR (.mk k n p d (if k = 8 then flat (passRs bx ks).1 else (passRs bx ks).1)) bx).1, (passRs bx ks).2 + 1)
  else (.mk k n p d (if k = 8 then flat (passRs bx ks).1 else (passRs bx ks).1), (passRs bx ks).2)
def passRs (bx : LI) : List PC → List PC × Int
 | [] => ([], 0)
 | c :: r => ((passR bx c).1 :: (passRs bx r).1, (passR bx c).2 + (passRs bx r).2)
end
def passO (bx : LI) (c : PC) : PC := .mk c.kind c.number c.params c.datum (if c.kind = 8 then flat (passRs bx c.kids).1 else (passRs bx c.kids).1)
theorem ah1 (bx : LI) (c : PC) : passR bx c = if c.kind = 8 ∧ 60 < (flat (passRs bx c.kids).1).length then (c, 0) else if (nodeR (passO bx c) bx).2 = true then ((nodeR (passO bx c) bx).1, (passRs bx c.kids).2 + 1) else (passO bx c, (passRs bx c.kids).2) := by cases c; rw [passR]; rfl
theorem nT (bx : LI) : ∀ ds : List PC, (passRs bx ds).1.length = ds.length
 | [] => by rw [passRs]
 | d :: r => by rw [passRs]; simp [nT bx r]
theorem ae7 : ∀ (a b : List PC), cnts (a ++ b) = cnts a + cnts b
 | [], b => by simp [cnts]
 | x :: r, b => by
  have h := ae7 r b
  have e1 : cnts (x :: (r ++ b)) = 1 + x.cnt + cnts (r ++ b) := rfl
  have e2 : cnts (x :: r) = 1 + x.cnt + cnts r := rfl
  rw [List.cons_append, e1, e2]; omega
theorem af1 : ∀ {ds : List PC}, okAlls ds = true → okAlls (flat ds) = true ∧ (∀ x ∈ flat ds, x.kind ≠ 8) ∧ cnts (flat ds) ≤ cnts ds ∧ ds.length ≤ (flat ds).length
 | [], _ => ⟨rfl, fun x hx => by simp [flat] at hx, Nat.le_refl _, by simp⟩
 | d :: r, h => by
  unfold okAlls at h
  rw [Bool.and_eq_true] at h
  obtain ⟨i1, i2, i3, i4⟩ := af1 h.2
  have e : flat (d :: r) = (if d.kind = 8 then d.kids else [d]) ++ flat r := by unfold flat; rw [List.flatMap_cons]
  rw [e]
  by_cases h8 : d.kind = 8
  ·have hs := shape8 h.1 h8
   rw [if_pos h8]
   refine ⟨rR fun x hx => ?_, fun x hx => ?_, ?_, ?_⟩
   ·rcases List.mem_append.1 hx with hx | hx
    ·exact oF h.1 hx
    ·exact U5 i1 hx
   ·rcases List.mem_append.1 hx with hx | hx
    ·exact hs.2.2 x hx
    ·exact i2 x hx
   ·have e2 : cnts (d :: r) = 1 + d.cnt + cnts r := rfl
    rw [ae7, ← cnt_eq, e2]; omega
   ·rw [List.length_append, List.length_cons]; omega
  ·rw [if_neg h8]
   refine ⟨?_, fun x hx => ?_, ?_, ?_⟩
   ·show okAlls (d :: flat r) = true
    unfold okAlls; rw [h.1, i1]; rfl
   ·rcases List.mem_cons.1 hx with rfl | hx
    ·exact h8
    ·exact i2 x hx
   ·have e1 : cnts (d :: flat r) = 1 + d.cnt + cnts (flat r) := rfl
    have e2 : cnts (d :: r) = 1 + d.cnt + cnts r := rfl
    show cnts (d :: flat r) ≤ _
    omega
   ·show _ ≤ (d :: flat r).length
    rw [List.length_cons, List.length_cons]; omega
theorem ah0 {bx : LI} {c : PC} (hv : okAll c = true) (hk : okAlls (passRs bx c.kids).1 = true) (h60 : ¬ (c.kind = 8 ∧ 60 < (flat (passRs bx c.kids).1).length)) : okAll (passO bx c) = true ∧ (passO bx c).cnt ≤ cnts (passRs bx c.kids).1 := by
 obtain ⟨f1, f2, f3, f4⟩ := af1 hk
 have hl := nT bx c.kids
 unfold passO
 by_cases h8 : c.kind = 8
 ·have hs := shape8 hv h8
  rw [if_pos h8, h8, hs.1.1, hs.1.2.1, hs.1.2.2]
  exact ⟨seq_ok (by omega) (by omega) f1 f2, f3⟩
 ·rw [if_neg h8]
  refine ⟨?_, Nat.le_refl _⟩
  have hs := aR hv
  rw [okAll_eq]
  show ((shapeOK _ && seqOK _) && okAlls (passRs bx c.kids).1) = true
  have h1 : seqOK (PC.mk c.kind c.number c.params c.datum (passRs bx c.kids).1) = true := by
   unfold seqOK
   rw [Bool.or_eq_true]
   refine Or.inl ?_
   show (!decide (c.kind = 8)) = true
   simp [h8]
  rw [hk, h1, Bool.and_true, Bool.and_true, ← hs]
  obtain ⟨k, n, p, d, ks⟩ := c
  exact shape_len _ _ _ _ _ _ hl
theorem J5 (bx : LI) : (∀ c : PC, okAll c = true → okAll (passR bx c).1 = true ∧ ((passR bx c).1.cnt : Int) + (passR bx c).2 ≤ c.cnt ∧ 0 ≤ (passR bx c).2) ∧ ∀ ds : List PC, okAlls ds = true → okAlls (passRs bx ds).1 = true ∧ (cnts (passRs bx ds).1 : Int) + (passRs bx ds).2 ≤ cnts ds ∧ 0 ≤ (passRs bx ds).2 := by
 refine ind (fun ds h ho => ?_) (fun c h hv => ?_)
 ·induction ds with
  | nil => rw [passRs]; exact ⟨rfl, Int.le_refl _, Int.le_refl _⟩
  | cons x r ih =>
   unfold okAlls at ho
   rw [Bool.and_eq_true] at ho
   have h1 := h x (by simp) ho.1
   have h2 := ih (fun y hy => h y (by simp [hy])) ho.2
   rw [passRs]
   refine ⟨?_, ?_, by show 0 ≤ (passR bx x).2 + (passRs bx r).2; omega⟩
   ·show okAlls ((passR bx x).1 :: (passRs bx r).1) = true
    unfold okAlls; rw [h1.1, h2.1]; rfl
   ·show (cnts ((passR bx x).1 :: (passRs bx r).1) : Int) + ((passR bx x).2 + (passRs bx r).2) ≤ (cnts (x :: r) : Int)
    unfold cnts; omega
 ·have hk := h (by rw [okAll_eq, Bool.and_eq_true] at hv; exact hv.2)
  rw [ah1]
  have hc := cnt_eq c
  split
  ·exact ⟨hv, by show (c.cnt : Int) + 0 ≤ _; omega, Int.le_refl _⟩
  ·rename_i h60
   obtain ⟨o1, o2⟩ := ah0 hv hk.1 h60
   split
   ·rename_i hn
    obtain ⟨n1, n2⟩ := nodeR_good bx o1 hn
    exact ⟨n1, by show ((nodeR (passO bx c) bx).1.cnt : Int) + ((passRs bx c.kids).2 + 1) ≤ _; omega, by show 0 ≤ (passRs bx c.kids).2 + 1; omega⟩
   ·exact ⟨o1, by show ((passO bx c).cnt : Int) + (passRs bx c.kids).2 ≤ _; omega, hk.2.2⟩
end Go.Abs

namespace Go.Abs
open PC
def addU (o : LI) (n : Int) : LI := if o.contains n = true then o else o ++ [n]
def boxOne (c : PC) (o : LI) : LI := if c.kind = 4 then addU o c.number else if c.kind = 9 then c.params.foldl addU o else o
mutual
def boxd : PC → LI → LI
 | .mk k n p d ks, o => boxds ks (boxOne (.mk k n p d ks) o)
def boxds : List PC → LI → LI
 | [], o => o
 | c :: r, o => boxds r (boxd c o)
end
theorem boxd_eq (c : PC) (o : LI) : boxd c o = boxds c.kids (boxOne c o) := by cases c; rw [boxd]; rfl
theorem addU_len (o : LI) (n : Int) : (addU o n).length ≤ o.length + 1 := by unfold addU; split <;> simp
theorem lG : ∀ (p o : LI), (p.foldl addU o).length ≤ o.length + p.length
 | [], o => by simp
 | x :: r, o => by
  have h1 := addU_len o x
  have h2 := lG r (addU o x)
  simp only [List.foldl_cons, List.length_cons]; omega
theorem ac3 (c : PC) (o : LI) : (boxOne c o).length ≤ o.length + 1 + c.params.length := by
 unfold boxOne
 have h1 := addU_len o c.number
 have h2 := lG c.params o
 split
 ·omega
 ·split <;> omega
theorem ae4 : (∀ (c : PC) (o : LI), (boxd c o).length ≤ o.length + 1 + 2 * wK c) ∧ ∀ (ds : List PC) (o : LI), (boxds ds o).length ≤ o.length + 2 * wKs ds := by
 refine ind (fun ds h => ?_) (fun c h => ?_)
 ·induction ds with
  | nil => intro o; simp [boxds]
  | cons x r ih =>
   intro o
   have h1 := h x (by simp) o
   have h2 := ih (fun y hy => h y (by simp [hy])) (boxd x o)
   unfold boxds wKs; omega
 ·intro o
  have h1 := ac3 c o
  have h2 := h (boxOne c o)
  rw [boxd_eq, cL]; omega
theorem uV : ∀ (n : Nat) (c : PC) (o : LI), c.cnt < n → c.nice → o.length + 1 + 2 * wK c ≤ 1000000000 → n8 n c o = some (boxd c o)
 | 0, c, _, h, _, _ => by omega
 | n + 1, c, o, h, hc, hl => by
  show eM (n8 n) c o = _
  have hc' := (z4 c).1 hc
  have hw := cL c
  have hk : ∀ o2 : LI, o2.length + 2 * wKs c.kids ≤ 1000000000 → itr (fW (n8 n) c) LF (0, o2) = some (boxds c.kids o2) := fun o2 h2 => by
   rw [F4 (L := fW (n8 n) c) c.kids.length (fun i a => a.length + 2 * wKs (c.kids.drop i) ≤ 1000000000) (fun i a => some (boxds (c.kids.drop i) a)) (by omega) (fun go i a hi ha hgo => ?_) (fun go a ha => ?_) (by simpa using h2)]
   ·rw [List.drop_zero]
   ·show Q0 (n8 n) c go i a = _
    unfold Q0
    rw [ak1 hi] at ha
    have hb := ae4.1 c.kids[i] a
    rw [if_pos (by omega), t9 hi, g9, uV n _ a (by have := P6 hi; omega) (A4 hc (List.getElem_mem hi)) (by omega), g9, m8 (by omega), hgo _ (by omega), List.drop_eq_getElem_cons hi, boxds]
   ·show Q0 (n8 n) c go _ a = _
    unfold Q0
    rw [if_neg (by omega), List.drop_length, boxds]
  have hp : ∀ o2 : LI, o2.length + c.params.length + 2 * wKs c.kids ≤ 1000000000 → V1 (n8 n) c o2 = some (boxds c.kids (if c.kind = 9 then c.params.foldl addU o2 else o2)) := fun o2 h2 => by
   unfold V1
   by_cases h9 : c.kind = 9
   ·rw [if_pos h9]
    rw [F4 (L := cD (n8 n) c) c.params.length (fun i a => a = (c.params.take i).foldl addU o2) (fun _ _ => some (boxds c.kids (c.params.foldl addU o2))) (by omega) (a := o2) (fun go i a hi ha hgo => ?_) (fun go a ha => ?_) rfl]
    ·show J0 (n8 n) c go i a = _
     unfold J0 O6 aD
     have hal := lG (c.params.take i) o2
     rw [← ha, List.length_take] at hal
     have hstep : (c.params.take (i + 1)).foldl addU o2 = addU a c.params[i] := by
      rw [List.take_add_one, List.getElem?_eq_getElem hi, List.foldl_append, ← ha]; rfl
     rw [if_pos (by omega), decide_eq_true h9, if_pos rfl, t9 hi, g9, I9 _ _ (by omega), g9]
     have hg := hgo _ hstep.symm
     unfold addU at hg
     by_cases hs : a.contains c.params[i] = true
     ·rw [if_pos hs] at hg
      rw [if_pos hs, m8 (by omega)]; exact hg
     ·rw [if_neg hs] at hg
      rw [if_neg hs, g9, m8 (by simp; omega), m8 (by omega)]; exact hg
    ·show J0 (n8 n) c go _ a = _
     unfold J0 O6
     have hal := lG c.params o2
     rw [List.take_length] at ha
     rw [if_neg (by omega), if_neg (by decide), ha]
     exact hk _ (by omega)
   ·rw [if_neg h9]
    have h0 : ∀ go, cD (n8 n) c go (0, o2) = some (boxds c.kids o2) := fun go => by
     show J0 (n8 n) c go 0 o2 = _
     unfold J0 O6
     rw [decide_eq_false h9]
     split <;> exact hk _ (by omega)
    exact lE (L := cD (n8 n) c) (fun _ => some (boxds c.kids o2)) (fun v => v = (0, o2)) (fun _ => 0) (fun go v hv _ => by rw [hv]; exact h0 go) _ rfl (by omega)
  unfold eM aB
  rw [boxd_eq]
  unfold boxOne
  by_cases h4 : c.kind = 4
  ·rw [if_pos h4, if_pos h4, I9 _ _ (by omega), g9]
   unfold addU
   have h9 : ¬ c.kind = 9 := by omega
   cases o.contains c.number
   ·rw [if_pos (show (!false) = true from rfl), if_neg (show ¬ false = true by decide), m8 (by simp; omega), hp _ (by simp; omega), if_neg h9]
   ·rw [if_neg (show ¬ (!true) = true by decide), if_pos (show true = true from rfl), hp _ (by omega), if_neg h9]
  ·rw [if_neg h4, if_neg h4, if_neg (by decide), hp _ (by omega)]
theorem pJ (c : PC) (hc : c.nice) (hcc : c.cnt ≤ 1048576) (hw : wK c ≤ 40000000) : Q9 c = some (boxd c []) := by
 unfold Q9
 rw [uV RF c [] (RF_cntK (by omega)) hc (by simp; omega), g9]
theorem add_ok {l : LI} {s : Option (MI)} (h : seenOK s l) (hl : l.length ≤ 1000000000000) (x : Int) : ∃ s2, D3 l s x = some (addU l x, s2) ∧ seenOK s2 (addU l x) := G0 h hl x
theorem fO : ∀ (n : Nat) (c : PC) (o : LI) (s : Option (MI)), c.cnt < n → c.nice → seenOK s o → o.length + 1 + 2 * wK c ≤ 1000000000 → ∃ r, r9 n c o s = some r ∧ (r.1 = boxd c o ∧ seenOK r.2 r.1)
 | 0, c, _, _, h, _, _, _ => by omega
 | n + 1, c, o, s, h, hc, hs, hl => by
  show ∃ r, dM (r9 n) c o s = some r ∧ _
  have hc' := (z4 c).1 hc
  have hw := cL c
  have hk : ∀ (o2 : LI) (s2 : Option (MI)), boxds c.kids o2 = boxd c o → seenOK s2 o2 → o2.length + 2 * wKs c.kids ≤ 1000000000 → ∃ r, O5 (r9 n) c o2 s2 = some r ∧ (r.1 = boxd c o ∧ seenOK r.2 r.1) := fun o2 s2 g1 g2 g3 => by
   unfold O5
   refine yB (L := lR (r9 n) c) c.kids.length (fun i v => boxds (c.kids.drop i) v.1 = boxd c o ∧ seenOK v.2 v.1 ∧ v.1.length + 2 * wKs (c.kids.drop i) ≤ 1000000000) _ (by omega) (fun go i v hi hv hgo => ?_) (fun go v hv => ?_) ⟨by simpa using g1, g2, by simpa using g3⟩
   ·obtain ⟨l, s3⟩ := v
    obtain ⟨q1, q2, q3⟩ := hv
    show ∃ r, P3 (r9 n) c go i l s3 = some r ∧ _
    unfold P3
    simp only at q1 q2 q3
    rw [ak1 hi] at q3
    rw [List.drop_eq_getElem_cons hi, boxds] at q1
    have hb := ae4.1 c.kids[i] l
    obtain ⟨r, e1, e2, e3⟩ := fO n c.kids[i] l s3 (by have := P6 hi; omega) (A4 hc (List.getElem_mem hi)) q2 (by omega)
    rw [if_pos (by omega), t9 hi, g9, e1, g9, m8 (by omega)]
    refine hgo (r.1, r.2) ⟨by show boxds _ r.1 = _; rw [e2]; exact q1, e3, by show r.1.length + _ ≤ _; rw [e2]; omega⟩
   ·obtain ⟨l, s3⟩ := v
    obtain ⟨q1, q2, q3⟩ := hv
    show ∃ r, P3 (r9 n) c go _ l s3 = some r ∧ _
    unfold P3
    rw [if_neg (by omega)]
    rw [List.drop_length, boxds] at q1
    exact ⟨_, rfl, q1, q2⟩
  have hbo := ac3 c o
  have he := boxd_eq c o
  unfold boxOne at he hbo
  unfold dM
  by_cases h4 : c.kind = 4
  ·rw [if_pos h4] at he hbo ⊢
   obtain ⟨s2, e1, e2⟩ := add_ok hs (by omega) c.number
   rw [e1, g9]
   exact hk _ s2 he.symm e2 (by show (addU o c.number).length + _ ≤ _; omega)
  ·rw [if_neg h4] at he hbo ⊢
   by_cases h9 : c.kind = 9
   ·rw [if_pos h9] at he hbo ⊢
    refine yB (L := lS (r9 n) c) c.params.length (fun i v => v.1 = (c.params.take i).foldl addU o ∧ seenOK v.2 v.1) _ (by omega) (fun go i v hi hv hgo => ?_) (fun go v hv => ?_) ⟨rfl, hs⟩
    ·obtain ⟨l, s3⟩ := v
     obtain ⟨q1, q2⟩ := hv
     show ∃ r, P4 (r9 n) c go i l s3 = some r ∧ _
     unfold P4
     simp only at q1 q2
     have hal := lG (c.params.take i) o
     rw [← q1, List.length_take] at hal
     obtain ⟨s2, e1, e2⟩ := add_ok q2 (by omega) c.params[i]
     rw [if_pos (by omega), t9 hi, g9, e1, g9, m8 (by omega)]
     refine hgo (addU l c.params[i], s2) ⟨?_, e2⟩
     show addU l _ = _
     rw [List.take_add_one, List.getElem?_eq_getElem hi, List.foldl_append, ← q1]; rfl
    ·obtain ⟨l, s3⟩ := v
     obtain ⟨q1, q2⟩ := hv
     show ∃ r, P4 (r9 n) c go _ l s3 = some r ∧ _
     unfold P4
     simp only at q1 q2
     rw [List.take_length] at q1
     rw [if_neg (by omega)]
     exact hk l s3 (by rw [q1]; exact he.symm) q2 (by rw [q1]; omega)
   ·rw [if_neg h9] at he hbo ⊢
    exact hk o s he.symm hs (by omega)
theorem oO (c : PC) (hc : c.nice) (hcc : c.cnt ≤ 1048576) (hw : wK c ≤ 40000000) : Q5 c = some (boxd c []) := by
 unfold Q5
 obtain ⟨r, e1, e2, e3⟩ := fO RF c [] none (RF_cntK (by omega)) hc xF (by simp; omega)
 rw [e1, g9, e2]
theorem ad5 (bx : LI) : ∀ (a b : List PC), (passRs bx (a ++ b)).1 = (passRs bx a).1 ++ (passRs bx b).1 ∧ (passRs bx (a ++ b)).2 = (passRs bx a).2 + (passRs bx b).2
 | [], b => by simp [passRs]
 | x :: r, b => by
  have := ad5 bx r b
  rw [List.cons_append, passRs, passRs]
  refine ⟨by rw [this.1]; rfl, ?_⟩
  show (passR bx x).2 + (passRs bx (r ++ b)).2 = (passR bx x).2 + (passRs bx r).2 + _
  rw [this.2]; omega
theorem yQ (bx : LI) (ds : List PC) (i : Nat) (h : i < ds.length) : (passRs bx (ds.take (i + 1))).1 = (passRs bx (ds.take i)).1 ++ [(passR bx ds[i]).1] ∧ (passRs bx (ds.take (i + 1))).2 = (passRs bx (ds.take i)).2 + (passR bx ds[i]).2 := by
 rw [List.take_add_one, List.getElem?_eq_getElem h]
 have := ad5 bx (ds.take i) [ds[i]]
 refine ⟨by rw [Option.toList_some, this.1]; simp [passRs], by rw [Option.toList_some, this.2]; simp [passRs]⟩
theorem flat_app (a b : List PC) : flat (a ++ b) = flat a ++ flat b := by unfold flat; rw [List.flatMap_append]
theorem flat_sgl (x : PC) : flat [x] = if x.kind = 8 then x.kids else [x] := by unfold flat; simp
theorem jT : ∀ {ds : List PC} (i : Nat), okAlls ds = true → okAlls (ds.take i) = true := fun {ds} i h => rR fun x hx => U5 h (List.mem_of_mem_take hx)
theorem lM : ∀ (ds : List PC) (i : Nat), cnts (ds.take i) ≤ cnts ds
 | [], i => by simp
 | d :: r, 0 => by simp [cnts]
 | d :: r, i + 1 => by
  have := lM r i
  have e1 : cnts (d :: r.take i) = 1 + d.cnt + cnts (r.take i) := rfl
  have e2 : cnts (d :: r) = 1 + d.cnt + cnts r := rfl
  rw [List.take_succ_cons]; omega
theorem pC {bx : LI} {ds : List PC} (hv : okAlls ds = true) (hc : cnts ds ≤ 3000) : (passRs bx ds).1.length ≤ 3000 ∧ (flat (passRs bx ds).1).length ≤ 3000 ∧ 0 ≤ (passRs bx ds).2 ∧ (passRs bx ds).2 ≤ 3000 := by
 have h1 := (J5 bx).2 ds hv
 have h2 := af1 h1.1
 have h3 := cnts_len (flat (passRs bx ds).1)
 have h4 := nT bx ds
 have h5 := cnts_len ds
 omega
theorem i_pass_eq (bx : LI) (m : MI) (hm : ∀ k, mget m k = if bx.contains k = true then 1 else 0) : ∀ (n : Nat) (c : PC), c.cnt < n → okAll c = true → c.cnt ≤ 3000 → X0 n c m = some (passR bx c)
 | 0, c, h, _, _ => by omega
 | n + 1, c, h, hv, hcc => by
  show rG (X0 n) c m = _
  unfold rG
  have nc := bV.1 c hv
  have hc' := (z4 c).1 nc
  have hk : okAlls c.kids = true := by rw [okAll_eq, Bool.and_eq_true] at hv; exact hv.2
  have hcn := cnt_eq c
  have e2 : o9 RF (PC.mk c.kind c.number c.params c.datum []) = some (PC.mk c.kind c.number c.params c.datum []) := I6 RF _ (by rw [RF_eq]; show 0 < _; omega) ((z4 _).2 ⟨hc'.1, hc'.2.1, by show 0 ≤ _; omega, trivial⟩)
  rw [e2, g9]
  have key : itr (rF (X0 n) c m (PC.mk c.kind c.number c.params c.datum [])) LF (0, 0, []) = some (passR bx c) := by
   refine lE (L := rF (X0 n) c m (PC.mk c.kind c.number c.params c.datum [])) (fun _ => some (passR bx c)) (fun v => ∃ i : Nat, i ≤ c.kids.length ∧ v = ((passRs bx (c.kids.take i)).2, (i : Int), if c.kind = 8 then flat (passRs bx (c.kids.take i)).1 else (passRs bx (c.kids.take i)).1)) (fun v => c.kids.length - v.2.1.toNat) (fun go v hv2 hgo => ?_) _ ⟨0, Nat.zero_le _, by simp [passRs, flat]⟩ (by show c.kids.length - (0 : Int).toNat < _; have := LF_eq; omega)
   obtain ⟨i, hi, rfl⟩ := hv2
   show hY (X0 n) c m _ go _ (i : Int) _ = _
   unfold hY
   have hb := pC (bx := bx) (jT i hk) (by have := lM c.kids i; omega)
   by_cases hlt : i < c.kids.length
   ·have hx := List.getElem_mem hlt
    have hxv := oF hv hx
    have hxc := T8 hx
    have hg := (J5 bx).1 c.kids[i] hxv
    have ht := yQ bx c.kids i hlt
    have hb2 := pC (bx := bx) (jT (i + 1) hk) (by have := lM c.kids (i + 1); omega)
    have hnext := hgo ((passRs bx (c.kids.take (i + 1))).2, ((i + 1 : Nat) : Int), if c.kind = 8 then flat (passRs bx (c.kids.take (i + 1))).1 else (passRs bx (c.kids.take (i + 1))).1) ⟨i + 1, hlt, rfl⟩ (by show c.kids.length - ((i + 1 : Nat) : Int).toNat < c.kids.length - (i : Int).toNat; omega)
    rw [if_pos (by omega), t9 hlt, g9, i_pass_eq bx m hm n _ (by omega) hxv (by omega), g9, m8 (by omega)]
    have e1 : ((i : Int) + 1) = ((i + 1 : Nat) : Int) := by omega
    unfold hX hU
    by_cases h8 : c.kind = 8
    ·rw [if_pos h8, if_pos h8]
     rw [if_pos h8, ht.1, ht.2, flat_app, flat_sgl] at hnext
     rw [ht.1, flat_app, flat_sgl] at hb2
     have hb3 := hb2.2.1
     rw [List.length_append] at hb3
     by_cases hy : (passR bx c.kids[i]).1.kind = 8
     ·rw [decide_eq_true hy, if_pos rfl, m8 (by rw [if_pos hy] at hb3; omega), m8 (by omega), e1]
      rw [if_pos hy] at hnext; exact hnext
     ·rw [decide_eq_false hy, if_neg (by decide), m8 (by rw [if_neg hy] at hb3; omega), m8 (by omega), e1]
      rw [if_neg hy] at hnext; exact hnext
    ·rw [if_neg h8, if_neg h8, if_neg (by decide), m8 (by simp; omega), m8 (by omega), e1]
     rw [if_neg h8, ht.1, ht.2] at hnext; exact hnext
   ·have : i = c.kids.length := by omega
    subst this
    rw [List.take_length] at hb ⊢
    rw [if_neg (by omega)]
    have hJ : ∀ b : Bool, (b = true ↔ c.kind = 8 ∧ 60 < (flat (passRs bx c.kids).1).length) → dR c m (PC.mk c.kind c.number c.params c.datum []) (passRs bx c.kids).2 (if c.kind = 8 then flat (passRs bx c.kids).1 else (passRs bx c.kids).1) b = some (passR bx c) := fun b hbt => by
     unfold dR
     rw [ah1]
     by_cases h60 : c.kind = 8 ∧ 60 < (flat (passRs bx c.kids).1).length
     ·rw [if_pos (hbt.2 h60), if_pos h60, I6 RF c (RF_cntK (by omega)) nc, g9]
     ·have ho := ah0 hv ((J5 bx).2 c.kids hk).1 h60
      have hpg := (J5 bx).2 c.kids hk
      have hoc : (passO bx c).cnt ≤ 3000 := by have := ho.2; omega
      rw [if_neg (fun hb => h60 (hbt.1 hb)), if_neg h60]
      have hs := xU (passO bx c) bx m hm (bV.1 _ ho.1) (ok_w ho.1 hoc) hoc ho.1
      show bnd (Z8 (passO bx c) m) _ = _
      rw [hs, g9, m8 (by omega)]
      by_cases hn : (nodeR (passO bx c) bx).2 = true
      ·rw [if_pos hn, if_pos hn]
      ·rw [if_neg hn, if_neg hn]; rfl
    by_cases h8 : c.kind = 8
    ·rw [if_pos h8]
     have := hJ (decide (((if c.kind = 8 then flat (passRs bx c.kids).1 else (passRs bx c.kids).1).length : Int) > 60)) (by rw [if_pos h8, decide_eq_true_iff]; exact ⟨fun h => ⟨h8, by omega⟩, fun h => by omega⟩)
     exact this
    ·rw [if_neg h8]
     exact hJ false ⟨fun h => (by cases h), fun h => absurd h.1 h8⟩
  exact key
theorem zJ (bx : LI) (hb : bx.length ≤ 1000000000000) : ∀ (n : Nat) (c : PC) (k : Int), c.cnt < n → okAll c = true → c.cnt ≤ 3000 → 0 ≤ k → k + c.cnt ≤ 1000000 → D7 n c bx k = some ((passR bx c).1, k + (passR bx c).2)
 | 0, c, _, h, _, _, _, _ => by omega
 | n + 1, c, k, h, hv, hcc, k0, k1 => by
  show iM (D7 n) c bx k = _
  unfold iM
  have nc := bV.1 c hv
  have hc' := (z4 c).1 nc
  have hk : okAlls c.kids = true := by rw [okAll_eq, Bool.and_eq_true] at hv; exact hv.2
  have hcn := cnt_eq c
  rw [eI _ (by omega), g9, pN RF _ (RF_cnt (G2 nc)) (G2 nc), g9]
  refine lE (L := qC (D7 n) c bx k c.params c.datum) (fun _ => some ((passR bx c).1, k + (passR bx c).2)) (fun v => ∃ i : Nat, i ≤ c.kids.length ∧ v = ((i : Int), k + (passRs bx (c.kids.take i)).2, (passRs bx (c.kids.take i)).1)) (fun v => c.kids.length - v.1.toNat) (fun go v hv2 hgo => ?_) _ ⟨0, Nat.zero_le _, by simp [passRs]⟩ (by show c.kids.length - (0 : Int).toNat < _; have := LF_eq; omega)
  obtain ⟨i, hi, rfl⟩ := hv2
  show cI (D7 n) c bx k c.params c.datum go (i : Int) _ _ = _
  unfold cI
  have hct := lM c.kids i
  have hb0 := pC (bx := bx) (jT i hk) (by omega)
  by_cases hlt : i < c.kids.length
  ·have hx := List.getElem_mem hlt
   have hxv := oF hv hx
   have hxc := T8 hx
   have ht := yQ bx c.kids i hlt
   have hpt := ((J5 bx).2 (c.kids.take i) (jT i hk)).2
   have hct2 : cnts (c.kids.take i) + (c.kids[i]).cnt ≤ cnts c.kids := by
    have h1 := lM c.kids (i + 1)
    rw [List.take_add_one, List.getElem?_eq_getElem hlt] at h1
    rw [ae7] at h1
    simp [cnts] at h1; omega
   have hnext := hgo (((i + 1 : Nat) : Int), k + (passRs bx (c.kids.take (i + 1))).2, (passRs bx (c.kids.take (i + 1))).1) ⟨i + 1, hlt, rfl⟩ (by show c.kids.length - ((i + 1 : Nat) : Int).toNat < c.kids.length - (i : Int).toNat; omega)
   rw [if_pos (by omega), t9 hlt, g9, zJ bx hb n _ _ (by omega) hxv (by omega) (by omega) (by omega), g9, m8 (by simp; omega), m8 (by omega)]
   have e1 : ((i : Int) + 1) = ((i + 1 : Nat) : Int) := by omega
   rw [e1]
   rw [ht.1, ht.2, ← Int.add_assoc] at hnext
   exact hnext
  ·have : i = c.kids.length := by omega
   subst this
   rw [List.take_length] at hb0 ⊢
   have hpg := (J5 bx).2 c.kids hk
   rw [if_neg (by omega)]
   have hJ : ∀ b : Bool, (b = true ↔ c.kind = 8 ∧ 60 < (flat (passRs bx c.kids).1).length) → ∀ ks, PC.mk c.kind c.number c.params c.datum ks = passO bx c → Z5 c bx k (k + (passRs bx c.kids).2) c.kind c.number c.params c.datum.kind c.datum.number c.datum.text c.datum.items ks b = some ((passR bx c).1, k + (passR bx c).2) := fun b hbt ks hks => by
    unfold Z5
    rw [ah1]
    by_cases h60 : c.kind = 8 ∧ 60 < (flat (passRs bx c.kids).1).length
    ·rw [if_pos (hbt.2 h60), if_pos h60, V3 RF c (RF_cntK (by omega)) nc, g9]
     simp
    ·have ho := ah0 hv hpg.1 h60
     have hoc : (passO bx c).cnt ≤ 3000 := by have := ho.2; omega
     rw [if_neg (fun hb => h60 (hbt.1 hb)), if_neg h60]
     have ed : PD.mk c.datum.kind c.datum.number c.datum.text c.datum.items = c.datum := by cases c.datum; rfl
     rw [ed, hks]
     obtain ⟨r, e, h1, h2, h3⟩ := s_l9Node_eq (passO bx c) bx (bV.1 _ ho.1) (ok_w ho.1 hoc) hoc ho.1 hb
     rw [e, g9, m8 (by omega)]
     by_cases hn : (nodeR (passO bx c) bx).2 = true
     ·rw [if_pos hn, if_pos (by rw [h1]; exact hn), h2 (by rw [h1]; exact hn)]
      show _ = some ((nodeR (passO bx c) bx).1, k + ((passRs bx c.kids).2 + 1))
      rw [Int.add_assoc]
     ·rw [if_neg hn, if_neg (by rw [h1]; exact hn)]
   unfold bK
   by_cases h8 : c.kind = 8
   ·have hs := shape8 hv h8
    have hf := af1 hpg.1
    have hl := nT bx c.kids
    rw [if_pos h8, sA _ (by omega) (fun x hx => ((z4 x).1 (bV.1 x (U5 hpg.1 hx))).2.2.1), g9, sK (by omega)]
    have ho : PC.mk c.kind c.number c.params c.datum (flat (passRs bx c.kids).1) = passO bx c := by unfold passO; rw [if_pos h8]
    have := hJ (decide (((flat (passRs bx c.kids).1).length : Int) > 60)) (by rw [decide_eq_true_iff]; exact ⟨fun h => ⟨h8, by omega⟩, fun h => by omega⟩) _ ho
    rw [h8, hs.1.1, hs.1.2.1, hs.1.2.2] at this
    exact this
   ·rw [if_neg h8, if_neg h8]
    exact hJ false ⟨fun h => (by cases h), fun h => absurd h.1 h8⟩ _ (by unfold passO; rw [if_neg h8])
end Go.Abs

namespace Go.Abs
open PC
def bxOf (c : PC) (g : LI) : LI := boxd c [] ++ (free c [] [] ++ g)
theorem bx_lens (c : PC) (hv : okAll c = true) (hc : c.cnt ≤ 3000) : (boxd c []).length ≤ 90000000 ∧ (free c [] []).length ≤ 3001 := by
 have h1 := ae4.1 c []
 have h2 := ok_w hv hc
 have h3 := vU.1 c [] []
 simp at h1 h3; omega
theorem i_oneP_eq (c : PC) (g : LI) (hv : okAll c = true) (hc : c.cnt ≤ 3000) (hg : g.length ≤ 10000000) : hO c g = some (passR (bxOf c g) c) := by
 unfold hO
 have nc := bV.1 c hv
 have hw := ok_w hv hc
 have hl := bx_lens c hv hc
 rw [oO c nc (by omega) hw, g9, fL c nc hw, g9]
 rw [i_setOf_eq [boxd c [], free c [] [], g] (by simp) (fun l hl2 => by
  simp only [List.mem_cons, List.not_mem_nil, or_false] at hl2
  rcases hl2 with rfl | rfl | rfl <;> omega), g9]
 rw [i_pass_eq (bxOf c g) _ (fun k => by rw [yJ]; simp [mget_nil, bxOf]) RF c (RF_cntK (by omega)) hv hc, g9]
theorem s_oneP_eq (c : PC) (g : LI) (hv : okAll c = true) (hc : c.cnt ≤ 3000) (hg : g.length ≤ 10000000) {R : Type} (k : PC × Int → Option R) :
 (bnd (iK c) fun x3 => chk ((x3.length + g.length) * 8 ≤ 140737488355328) <| bnd (D7 RF c (x3 ++ g) 0) k) = k (passR (bxOf c g) c) := by
 have nc := bV.1 c hv
 have hw := ok_w hv hc
 have hl := bx_lens c hv hc
 unfold iK
 rw [pJ c nc (by omega) hw, g9, fT c nc hw, g9, m8 (by omega), g9, m8 (by rw [List.length_append]; omega)]
 have e : bxOf c g = boxd c [] ++ free c [] [] ++ g := by unfold bxOf; rw [List.append_assoc]
 rw [← e, zJ (bxOf c g) (by rw [e, List.length_append, List.length_append]; omega) RF c 0 (RF_cntK (by omega)) hv hc (Int.le_refl _) (by omega), g9, Int.zero_add]
def optR (g : LI) : Nat → PC → Int → PC × Int
 | 0, c, t => (c, t)
 | k + 1, c, t => if (passR (bxOf c g) c).2 = 0 then ((passR (bxOf c g) c).1, t + (passR (bxOf c g) c).2) else optR g k (passR (bxOf c g) c).1 (t + (passR (bxOf c g) c).2)
theorem yO (g : LI) : ∀ (N : Nat) (c : PC) (t : Int) (k : Nat), okAll c = true → c.cnt ≤ N → c.cnt < k → optR g k c t = optR g (c.cnt + 1) c t
 | N, c, t, 0, _, _, h => by omega
 | N, c, t, k + 1, hv, hN, hk => by
  have hp := (J5 (bxOf c g)).1 c hv
  unfold optR
  by_cases h0 : (passR (bxOf c g) c).2 = 0
  ·rw [if_pos h0, if_pos h0]
  ·rw [if_neg h0, if_neg h0]
   cases N with
   | zero => omega
   | succ N => rw [yO g N _ _ k hp.1 (by omega) (by omega), yO g N _ _ c.cnt hp.1 (by omega) (by omega)]
theorem lX (g : LI) (c : PC) (t : Int) (hv : okAll c = true) : optR g (c.cnt + 1) c t = if (passR (bxOf c g) c).2 = 0 then ((passR (bxOf c g) c).1, t + (passR (bxOf c g) c).2) else optR g ((passR (bxOf c g) c).1.cnt + 1) (passR (bxOf c g) c).1 (t + (passR (bxOf c g) c).2) := by
 have hp := (J5 (bxOf c g)).1 c hv
 by_cases h0 : (passR (bxOf c g) c).2 = 0
 ·rw [optR, if_pos h0, if_pos h0]
 ·rw [optR, if_neg h0, if_neg h0]
  exact yO g _ _ _ _ hp.1 (Nat.le_refl _) (by omega)
theorem optR_good (g : LI) : ∀ (N : Nat) (c : PC) (t : Int), okAll c = true → c.cnt ≤ N → 0 ≤ t → okAll (optR g (c.cnt + 1) c t).1 = true ∧ (optR g (c.cnt + 1) c t).1.cnt ≤ c.cnt ∧ 0 ≤ (optR g (c.cnt + 1) c t).2 ∧ (optR g (c.cnt + 1) c t).2 ≤ t + c.cnt
 | N, c, t, hv, hN, h0 => by
  have hp := (J5 (bxOf c g)).1 c hv
  rw [lX g c t hv]
  by_cases hz : (passR (bxOf c g) c).2 = 0
  ·rw [if_pos hz]
   exact ⟨hp.1, by show (passR (bxOf c g) c).1.cnt ≤ _; omega, by show 0 ≤ t + _; omega, by show t + _ ≤ _; omega⟩
  ·rw [if_neg hz]
   cases N with
   | zero => omega
   | succ N =>
    obtain ⟨a, b, d, e⟩ := optR_good g N (passR (bxOf c g) c).1 (t + (passR (bxOf c g) c).2) hp.1 (by omega) (by omega)
    exact ⟨a, by omega, d, by omega⟩
theorem aa1 (c : PC) (g : LI) (hv : okAll c = true) (hc : c.cnt ≤ 3000) (hg : g.length ≤ 10000000) : dQ c g = some (optR g (c.cnt + 1) c 0) := by
 unfold dQ
 have hp := (J5 (bxOf c g)).1 c hv
 rw [i_oneP_eq c g hv hc hg, g9, m8 (by omega), lX g c 0 hv]
 by_cases h0 : (passR (bxOf c g) c).2 = 0
 ·rw [if_pos h0, if_pos h0]
 ·rw [if_neg h0, if_neg h0]
  generalize hd : (passR (bxOf c g) c).1 = d at hp ⊢
  generalize hn : (0 + (passR (bxOf c g) c).2) = n
  have hnn : 0 ≤ n ∧ n + d.cnt ≤ 1000000 := by omega
  have ed : ∀ d : PC, PC.mk d.kind d.number d.params (PD.mk d.datum.kind d.datum.number d.datum.text d.datum.items) d.kids = d := fun d => by obtain ⟨k, n, p, e, ks⟩ := d; cases e; rfl
  refine (lE (L := gK g) (fun v => some (optR g ((PC.mk v.2.1 v.2.2.1 v.2.2.2.2.2.2.1 (PD.mk v.2.2.2.1 v.2.2.2.2.1 v.2.2.2.2.2.1 v.2.2.2.2.2.2.2.1) v.2.2.2.2.2.2.2.2).cnt + 1) (PC.mk v.2.1 v.2.2.1 v.2.2.2.2.2.2.1 (PD.mk v.2.2.2.1 v.2.2.2.2.1 v.2.2.2.2.2.1 v.2.2.2.2.2.2.2.1) v.2.2.2.2.2.2.2.2) v.1))
   (fun v => okAll (PC.mk v.2.1 v.2.2.1 v.2.2.2.2.2.2.1 (PD.mk v.2.2.2.1 v.2.2.2.2.1 v.2.2.2.2.2.1 v.2.2.2.2.2.2.2.1) v.2.2.2.2.2.2.2.2) = true ∧ (PC.mk v.2.1 v.2.2.1 v.2.2.2.2.2.2.1 (PD.mk v.2.2.2.1 v.2.2.2.2.1 v.2.2.2.2.2.1 v.2.2.2.2.2.2.2.1) v.2.2.2.2.2.2.2.2).cnt ≤ 3000 ∧ 0 ≤ v.1 ∧ v.1 + ((PC.mk v.2.1 v.2.2.1 v.2.2.2.2.2.2.1 (PD.mk v.2.2.2.1 v.2.2.2.2.1 v.2.2.2.2.2.1 v.2.2.2.2.2.2.2.1) v.2.2.2.2.2.2.2.2).cnt : Int) ≤ 1000000)
   (fun v => (PC.mk v.2.1 v.2.2.1 v.2.2.2.2.2.2.1 (PD.mk v.2.2.2.1 v.2.2.2.2.1 v.2.2.2.2.2.1 v.2.2.2.2.2.2.2.1) v.2.2.2.2.2.2.2.2).cnt) (fun go v hv2 hgo => ?_) _ ?_ ?_).trans ?_
  ·obtain ⟨t, k, m, dk, dn, dt, p, di, ks⟩ := v
   obtain ⟨q1, q2, q3, q4⟩ := hv2
   show U3 g go t k m dk dn dt p di ks = some (optR g ((PC.mk k m p (PD.mk dk dn dt di) ks).cnt + 1) (PC.mk k m p (PD.mk dk dn dt di) ks) t)
   unfold U3
   simp only at q1 q2 q3 q4 hgo
   generalize PC.mk k m p (PD.mk dk dn dt di) ks = x at q1 q2 q3 q4 hgo ⊢
   have hx := (J5 (bxOf x g)).1 x q1
   rw [i_oneP_eq x g q1 q2 hg, g9, m8 (by omega), lX g x t q1]
   by_cases hz : (passR (bxOf x g) x).2 = 0
   ·rw [if_pos hz, if_pos hz]
   ·rw [if_neg hz, if_neg hz]
    have := hgo (t + (passR (bxOf x g) x).2, (passR (bxOf x g) x).1.kind, (passR (bxOf x g) x).1.number, (passR (bxOf x g) x).1.datum.kind, (passR (bxOf x g) x).1.datum.number, (passR (bxOf x g) x).1.datum.text, (passR (bxOf x g) x).1.params, (passR (bxOf x g) x).1.datum.items, (passR (bxOf x g) x).1.kids)
    simp only [ed] at this
    exact this ⟨hx.1, by omega, by omega, by omega⟩ (by omega)
  ·simp only [ed]
   exact ⟨hp.1, by omega, hnn.1, hnn.2⟩
  ·simp only [ed]
   have := LF_eq; omega
  ·simp only [ed]
theorem zG (c : PC) (g : LI) (hv : okAll c = true) (hc : c.cnt ≤ 3000) (hg : g.length ≤ 10000000) : cG c g = some (optR g (c.cnt + 1) c 0) := by
 unfold cG
 have hp := (J5 (bxOf c g)).1 c hv
 rw [s_oneP_eq c g hv hc hg, m8 (by omega), lX g c 0 hv]
 by_cases h0 : (passR (bxOf c g) c).2 = 0
 ·rw [if_pos h0, if_pos h0]
 ·rw [if_neg h0, if_neg h0]
  refine lE (L := eQ g) (fun v => some (optR g (v.2.cnt + 1) v.2 v.1)) (fun v => okAll v.2 = true ∧ v.2.cnt ≤ 3000 ∧ 0 ≤ v.1 ∧ v.1 + (v.2.cnt : Int) ≤ 1000000) (fun v => v.2.cnt) (fun go v hv2 hgo => ?_) _ ⟨hp.1, by show (passR (bxOf c g) c).1.cnt ≤ _; omega, by show 0 ≤ 0 + _; omega, by show 0 + (passR (bxOf c g) c).2 + ((passR (bxOf c g) c).1.cnt : Int) ≤ _; omega⟩ (by show (passR (bxOf c g) c).1.cnt < _; have := LF_eq; omega)
  obtain ⟨t, x⟩ := v
  obtain ⟨q1, q2, q3, q4⟩ := hv2
  show R0 g go t x = _
  unfold R0
  simp only at q1 q2 q3 q4
  have hx := (J5 (bxOf x g)).1 x q1
  rw [s_oneP_eq x g q1 q2 hg, m8 (by omega), lX g x t q1]
  by_cases hz : (passR (bxOf x g) x).2 = 0
  ·rw [if_pos hz, if_pos hz]
  ·rw [if_neg hz, if_neg hz]
   exact hgo (t + (passR (bxOf x g) x).2, (passR (bxOf x g) x).1) ⟨hx.1, by show (passR (bxOf x g) x).1.cnt ≤ _; omega, by show 0 ≤ t + (passR (bxOf x g) x).2; omega, by show t + (passR (bxOf x g) x).2 + ((passR (bxOf x g) x).1.cnt : Int) ≤ _; omega⟩ (by show (passR (bxOf x g) x).1.cnt < x.cnt; omega)
end Go.Abs
