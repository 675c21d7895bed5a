/-
  Plain: valid data.
-/
import Derived.Test.YtiecdekmiabmkaaPlC
set_option linter.unusedVariables false
set_option linter.unusedSimpArgs false
namespace Go.Abs
namespace PDat

def nodeOK (k n : Int) (t : List UInt8) (m : Int) : Bool :=
  if k = 0 then decide (n = 0) && decide (t = [])
  else if k = 1 then decide (n = 0) && (decide (m = 0) && isSymbol t)
  else if k = 2 then inside n (-999999999) 999999999 && (decide (t = []) && decide (m = 0))
  else if k = 3 then inside n 0 1 && (decide (t = []) && decide (m = 0))
  else if k = 4 then decide (n = 0) && (decide (m = 0) && isText t)
  else false

mutual
def okAll : PDat → Bool
  | .mk k n t is => nodeOK k n t is.length && okAlls is
def okAlls : List PDat → Bool
  | [] => true
  | d :: r => okAll d && okAlls r
end
mutual
def depth : PDat → Int
  | .mk _ _ _ is => depths is + 1
def depths : List PDat → Int
  | [] => 0
  | d :: r => max (depth d) (depths r)
end
mutual
def meas : PDat → Int → Int → Bool × Int
  | .mk k n t is, deep, nodes => if 20 < deep ∨ 600 < nodes + 1 ∨ nodeOK k n t is.length = false then (false, nodes + 1) else measL is (deep + 1) (nodes + 1)
def measL : List PDat → Int → Int → Bool × Int
  | [], _, nodes => (true, nodes)
  | d :: r, deep, nodes => if (meas d deep nodes).1 = true then measL r deep (meas d deep nodes).2 else (false, (meas d deep nodes).2)
end
mutual
def few : PDat → Int → Int
  | .mk _ _ _ is, left => fews is (left - 1)
def fews : List PDat → Int → Int
  | [], left => left
  | d :: r, left => if 0 ≤ left then fews r (few d left) else left
end

def valid (d : PDat) : Bool := decide ((d.cnt : Int) + 1 ≤ 600) && (decide (d.depth ≤ 20) && d.okAll)

theorem depths_nonneg : ∀ ds : List PDat, 0 ≤ depths ds
  | [] => by simp [depths]
  | d :: r => by have := depths_nonneg r; unfold depths; omega

theorem meas_spec : (∀ (d : PDat) (deep nodes : Int), ((meas d deep nodes).1 = true ↔ deep + d.depth ≤ 21 ∧ nodes + 1 + d.cnt ≤ 600 ∧ d.okAll = true) ∧ ((meas d deep nodes).1 = true → (meas d deep nodes).2 = nodes + 1 + d.cnt)) ∧
    (∀ (ds : List PDat) (deep nodes : Int), deep ≤ 21 → nodes ≤ 600 → ((measL ds deep nodes).1 = true ↔ deep + depths ds ≤ 21 ∧ nodes + cnts ds ≤ 600 ∧ okAlls ds = true) ∧ ((measL ds deep nodes).1 = true → (measL ds deep nodes).2 = nodes + cnts ds)) := by
  refine ind (fun ds ih => ?_) (fun d ih => ?_)
  · induction ds with
    | nil => intro deep nodes h1 h2; simp [measL, depths, cnts, okAlls]; omega
    | cons x r ihr =>
      intro deep nodes h1 h2
      have hx := ih x (by simp) deep nodes
      have hr := ihr (fun y hy => ih y (by simp [hy])) deep
      have hd := depths_nonneg r
      unfold measL depths cnts okAlls
      by_cases hb : (meas x deep nodes).1 = true
      · rw [if_pos hb]
        have h3 := hx.1.1 hb
        have h4 := hx.2 hb
        have h5 := hr (meas x deep nodes).2 h1 (by omega)
        rw [h5.1, h3.2.2, h4, Bool.true_and]
        refine ⟨⟨fun h => ⟨by omega, by omega, h.2.2⟩, fun h => ⟨by omega, by omega, h.2.2⟩⟩, fun h => ?_⟩
        rw [← h4, h5.2 (h5.1.2 (by rw [h4]; exact h)), h4]
        omega
      · rw [if_neg hb]
        refine ⟨⟨fun h => by simp at h, fun h => ?_⟩, fun h => by simp at h⟩
        refine absurd (hx.1.2 ⟨by omega, by omega, ?_⟩) hb
        have := h.2.2
        simp only [Bool.and_eq_true] at this
        exact this.1
  · intro deep nodes
    obtain ⟨k, n, t, is⟩ := d
    have ih' : ∀ (deep nodes : Int), deep ≤ 21 → nodes ≤ 600 → ((measL is deep nodes).1 = true ↔ deep + depths is ≤ 21 ∧ nodes + cnts is ≤ 600 ∧ okAlls is = true) ∧ ((measL is deep nodes).1 = true → (measL is deep nodes).2 = nodes + cnts is) := ih
    have hd := depths_nonneg is
    unfold meas depth cnt okAll
    by_cases hc : 20 < deep ∨ 600 < nodes + 1 ∨ nodeOK k n t is.length = false
    · rw [if_pos hc]
      refine ⟨⟨fun h => by simp at h, fun h => ?_⟩, fun h => by simp at h⟩
      have := h.2.2
      simp only [Bool.and_eq_true] at this
      rcases hc with hc | hc | hc
      · omega
      · omega
      · rw [this.1] at hc; cases hc
    · rw [if_neg hc]
      have h0 : nodeOK k n t is.length = true := by cases hq : nodeOK k n t is.length <;> simp_all
      have h5 := ih' (deep + 1) (nodes + 1) (by omega) (by omega)
      rw [h5.1, h0, Bool.true_and]
      refine ⟨⟨fun h => ⟨by omega, by omega, h.2.2⟩, fun h => ⟨by omega, by omega, h.2.2⟩⟩, fun h => ?_⟩
      rw [h5.2 (h5.1.2 h)]

theorem few_spec : (∀ (d : PDat) (left : Int), 0 ≤ left → (-1 ≤ few d left ∧ few d left ≤ left) ∧ (0 ≤ few d left ↔ (d.cnt : Int) + 1 ≤ left) ∧ (0 ≤ few d left → few d left = left - (d.cnt + 1))) ∧
    (∀ (ds : List PDat) (left : Int), -1 ≤ left → (-1 ≤ fews ds left ∧ fews ds left ≤ left) ∧ (0 ≤ fews ds left ↔ (cnts ds : Int) ≤ left) ∧ (0 ≤ fews ds left → fews ds left = left - cnts ds)) := by
  refine ind (fun ds ih => ?_) (fun d ih => ?_)
  · induction ds with
    | nil => intro left h; simp [fews, cnts]; omega
    | cons x r ihr =>
      intro left h
      unfold fews cnts
      by_cases h0 : 0 ≤ left
      · rw [if_pos h0]
        have hx := ih x (by simp) left h0
        have hr := ihr (fun y hy => ih y (by simp [hy])) (few x left) (by omega)
        refine ⟨by omega, ⟨fun h => ?_, fun h => ?_⟩, fun h => ?_⟩
        · have h1 := hr.2.1.1 h
          have h2 := hx.2.2 (by omega)
          omega
        · have h2 := hx.2.2 (hx.2.1.2 (by omega))
          exact hr.2.1.2 (by omega)
        · have h1 := hr.2.1.1 h
          have h2 := hx.2.2 (by omega)
          have h3 := hr.2.2 h
          omega
      · rw [if_neg h0]
        refine ⟨by omega, ⟨fun h => by omega, fun h => by omega⟩, fun h => by omega⟩
  · intro left h0
    obtain ⟨k, n, t, is⟩ := d
    have h := ih (left - 1) (by omega)
    have h' : (-1 ≤ fews is (left - 1) ∧ fews is (left - 1) ≤ left - 1) ∧ (0 ≤ fews is (left - 1) ↔ (cnts is : Int) ≤ left - 1) ∧ (0 ≤ fews is (left - 1) → fews is (left - 1) = left - 1 - cnts is) := h
    unfold few cnt
    refine ⟨by omega, by rw [h'.2.1]; omega, fun h => by rw [h'.2.2 h]; omega⟩

theorem meas_valid (d : PDat) : (meas d 1 0).1 = d.valid := by
  have h := (meas_spec.1 d 1 0).1
  generalize meas d 1 0 = q at h
  have e : d.valid = true ↔ ((d.cnt : Int) + 1 ≤ 600 ∧ d.depth ≤ 20 ∧ d.okAll = true) := by
    unfold valid
    rw [Bool.and_eq_true, Bool.and_eq_true, decide_eq_true_iff, decide_eq_true_iff]
  rw [Bool.eq_iff_iff, h, e]
  refine ⟨fun h => ⟨by omega, by omega, h.2.2⟩, fun h => ⟨by omega, by omega, h.2.2⟩⟩
theorem few_valid (d : PDat) : (decide (0 ≤ few d 600) && (decide (d.depth ≤ 20) && d.okAll)) = d.valid := by
  have h := (few_spec.1 d 600 (by omega)).2.1
  have e : decide (0 ≤ few d 600) = decide ((d.cnt : Int) + 1 ≤ 600) := decide_eq_decide.2 h
  unfold valid
  rw [e]

theorem meas_eq (d : PDat) (deep nodes : Int) : meas d deep nodes = if 20 < deep ∨ 600 < nodes + 1 ∨ nodeOK d.kind d.number d.text d.items.length = false then (false, nodes + 1) else measL d.items (deep + 1) (nodes + 1) := by cases d; rfl
theorem few_eq (d : PDat) (left : Int) : few d left = fews d.items (left - 1) := by cases d; rfl
theorem depth_eq (d : PDat) : d.depth = depths d.items + 1 := by cases d; rfl
theorem okAll_eq (d : PDat) : d.okAll = (nodeOK d.kind d.number d.text d.items.length && okAlls d.items) := by cases d; rfl
theorem measL_drop {ds : List PDat} {i : Nat} {deep nodes : Int} (h : i < ds.length) : measL (ds.drop i) deep nodes = if (meas (ds.getD i default) deep nodes).1 = true then measL (ds.drop (i + 1)) deep (meas (ds.getD i default) deep nodes).2 else (false, (meas (ds.getD i default) deep nodes).2) := by
  rw [List.drop_eq_getElem_cons h]
  simp [measL, List.getD, List.getElem?_eq_getElem h]
theorem fews_drop {ds : List PDat} {i : Nat} {left : Int} (h : i < ds.length) : fews (ds.drop i) left = if 0 ≤ left then fews (ds.drop (i + 1)) (few (ds.getD i default) left) else left := by
  rw [List.drop_eq_getElem_cons h]
  simp [fews, List.getD, List.getElem?_eq_getElem h]
theorem okAlls_drop {ds : List PDat} {i : Nat} (h : i < ds.length) : okAlls (ds.drop i) = (okAll (ds.getD i default) && okAlls (ds.drop (i + 1))) := by
  rw [List.drop_eq_getElem_cons h]
  simp [okAlls, List.getD, List.getElem?_eq_getElem h]
theorem depths_drop {ds : List PDat} {i : Nat} (h : i < ds.length) : depths (ds.drop i) = max (depth (ds.getD i default)) (depths (ds.drop (i + 1))) := by
  rw [List.drop_eq_getElem_cons h]
  simp [depths, List.getD, List.getElem?_eq_getElem h]
/-- A tree is no deeper than it is large. -/
theorem depth_cnt : (∀ d : PDat, d.depth ≤ d.cnt + 1 ∧ 1 ≤ d.depth) ∧ ∀ ds : List PDat, depths ds ≤ cnts ds := by
  refine ind (fun ds ih => ?_) (fun d ih => ?_)
  · induction ds with
    | nil => simp [depths, cnts]
    | cons x r ihr =>
      have h1 := ih x (by simp)
      have h2 := ihr fun y hy => ih y (by simp [hy])
      unfold depths cnts
      omega
  · have := depths_nonneg d.items
    rw [depth_eq, cnt_eq]
    omega
/-- What is counted stays small. -/
theorem meas_le : (∀ (d : PDat) (deep nodes : Int), nodes + 1 ≤ (meas d deep nodes).2 ∧ (nodes ≤ 600 → (meas d deep nodes).2 ≤ 601)) ∧ (∀ (ds : List PDat) (deep nodes : Int), nodes ≤ (measL ds deep nodes).2 ∧ (nodes ≤ 600 → (measL ds deep nodes).2 ≤ 601)) := by
  refine ind (fun ds ih => ?_) (fun d ih => ?_)
  · induction ds with
    | nil => intro deep nodes; simp [measL]; omega
    | cons x r ihr =>
      intro deep nodes
      have h1 := ih x (by simp) deep nodes
      unfold measL
      split
      · rename_i hb
        have h2 := ihr (fun y hy => ih y (by simp [hy])) deep (meas x deep nodes).2
        have h3 := (meas_spec.1 x deep nodes)
        have h4 := h3.1.1 hb
        have h5 := h3.2 hb
        refine ⟨by omega, fun h => h2.2 (by omega)⟩
      · exact ⟨by dsimp only; omega, fun h => h1.2 h⟩
  · intro deep nodes
    rw [meas_eq]
    split
    · exact ⟨Int.le_refl _, fun h => by dsimp only; omega⟩
    · have := ih (deep + 1) (nodes + 1)
      exact ⟨this.1, fun h => this.2 (by omega)⟩

end PDat
end Go.Abs
