/-
  Plain: data (trees of numbers and texts).
-/
import Derived.Test.YtiecdekmiabmkaaPlB
import Derived.Test.YtiecdekmiabmkaaAbsR
set_option linter.unusedVariables false
set_option linter.unusedSimpArgs false
namespace Go.Abs

inductive PDat where
  | mk (kind number : Int) (text : List UInt8) (items : List PDat)

namespace PDat
def kind : PDat → Int | .mk k _ _ _ => k
def number : PDat → Int | .mk _ n _ _ => n
def text : PDat → List UInt8 | .mk _ _ t _ => t
def items : PDat → List PDat | .mk _ _ _ is => is
instance : Inhabited PDat := ⟨.mk 0 0 [] []⟩

mutual
def enc (l : Nat) : PDat → List V
  | .mk k n t is => [.int .i64 k, .int .i64 n, .str t, .psl l 4 (encs l is)]
def encs (l : Nat) : List PDat → List (List V)
  | [] => []
  | d :: r => enc l d :: encs l r
end
theorem encs_map (l : Nat) : ∀ ds : List PDat, encs l ds = ds.map (enc l)
  | [] => rfl
  | d :: r => by simp [encs, encs_map l r]
/-- The cells of a datum, in the open. -/
def encX (l : Nat) (d : PDat) : List V := [.int .i64 d.kind, .int .i64 d.number, .str d.text, .psl l 4 (d.items.map (enc l))]
theorem enc_eq (l : Nat) (d : PDat) : d.enc l = d.encX l := by cases d; simp [enc, encX, encs_map, kind, number, text, items]

mutual
theorem rlL_enc (f : Nat → Nat) (l : Nat) : ∀ d : PDat, V.rlL f (enc l d) = enc (f l) d
  | .mk k n t is => by simp [enc, V.rlL, V.rl, rlR_encs f l is]
theorem rlR_encs (f : Nat → Nat) (l : Nat) : ∀ ds : List PDat, V.rlR f (encs l ds) = encs (f l) ds
  | [] => rfl
  | d :: r => by simp [encs, V.rlR, rlL_enc f l d, rlR_encs f l r]
end
theorem rlL_encX (f : Nat → Nat) (l : Nat) (d : PDat) : V.rlL f (d.encX l) = d.encX (f l) := by rw [← enc_eq, rlL_enc, enc_eq]
theorem rl_agg (f : Nat → Nat) {l l' : Nat} (d : PDat) (h : f l = l') : V.rl f (.agg (d.encX l)) = .agg (d.encX l') := by
  simp only [V.rl, rlL_encX, h]
theorem rl_items (f : Nat → Nat) {l l' : Nat} (ds : List PDat) (h : f l = l') : V.rl f (.psl l 4 (ds.map (enc l))) = .psl l' 4 (ds.map (enc l')) := by
  subst h
  simp only [V.rl, ← encs_map, rlR_encs]
theorem rn_agg (g : Nat → Option Nat) {l : Nat} (d : PDat) (h : cut2 l = l) : V.rn g (.agg (d.encX l)) = .agg (d.encX l) := by
  have h1 := rl_items cut2 d.items h
  simp only [V.rn, encX, V.rnL, h1]
  rfl
theorem ok_agg {n l : Nat} (d : PDat) (h : cut2 l = l) : Ok n (.agg (d.encX l)) := rl_agg cut2 d h
theorem ok_items {n l : Nat} (ds : List PDat) (h : cut2 l = l) : Ok n (.psl l 4 (ds.map (enc l))) := rl_items cut2 ds h

theorem dat_ok {n l : Nat} (d : PDat) (h : cut2 l = l) : RowOk n (d.encX l) := ⟨rfl, rfl, rfl, ok_items _ h, trivial⟩

mutual
/-- How many there are below. -/
def cnt : PDat → Nat
  | .mk _ _ _ is => cnts is
def cnts : List PDat → Nat
  | [] => 0
  | d :: r => 1 + cnt d + cnts r
end
theorem cnts_mem : ∀ {ds : List PDat} {x : PDat}, x ∈ ds → x.cnt + 1 ≤ cnts ds
  | d :: r, x, h => by
    unfold cnts
    rcases List.mem_cons.1 h with rfl | h
    · omega
    · have := cnts_mem h; omega
theorem cnts_len : ∀ (ds : List PDat), ds.length ≤ cnts ds
  | [] => by simp
  | d :: r => by have := cnts_len r; unfold cnts; simp; omega
theorem cnt_eq (d : PDat) : d.cnt = cnts d.items := by cases d; rfl
theorem cnt_item {d x : PDat} (h : x ∈ d.items) : x.cnt < d.cnt := by have := cnts_mem h; rw [cnt_eq d]; omega
theorem item_mem {d : PDat} {i : Nat} (h : i < d.items.length) : d.items.getD i default ∈ d.items := by
  simp only [List.getD, List.getElem?_eq_getElem h, Option.getD_some]
  exact List.getElem_mem h
theorem row_get {ds : List PDat} {l i : Nat} (h : i < ds.length) : (ds.map (enc l))[i]? = some ((ds.getD i default).encX l) := by
  rw [List.getElem?_map, List.getElem?_eq_getElem h, ← enc_eq]
  simp [List.getD, List.getElem?_eq_getElem h]

mutual
def wf : PDat → Prop
  | .mk k n t is => (IntKind.i64.min ≤ k ∧ k ≤ IntKind.i64.max) ∧ (IntKind.i64.min ≤ n ∧ n ≤ IntKind.i64.max) ∧ t.length ≤ 9223372036854775807 ∧ is.length ≤ 9223372036854775807 ∧ wfs is
def wfs : List PDat → Prop
  | [] => True
  | d :: r => wf d ∧ wfs r
end
theorem wfs_mem : ∀ {ds : List PDat} {x : PDat}, wfs ds → x ∈ ds → x.wf
  | d :: r, x, h, hx => by
    unfold wfs at h
    rcases List.mem_cons.1 hx with rfl | hx
    · exact h.1
    · exact wfs_mem h.2 hx
theorem wfs_of : ∀ {ds : List PDat}, (∀ x ∈ ds, x.wf) → wfs ds
  | [], _ => trivial
  | d :: r, h => ⟨h d (by simp), wfs_of fun x hx => h x (by simp [hx])⟩
theorem wf_eq (d : PDat) : d.wf ↔ (IntKind.i64.min ≤ d.kind ∧ d.kind ≤ IntKind.i64.max) ∧ (IntKind.i64.min ≤ d.number ∧ d.number ≤ IntKind.i64.max) ∧ d.text.length ≤ 9223372036854775807 ∧ d.items.length ≤ 9223372036854775807 ∧ wfs d.items := by cases d; exact Iff.rfl

mutual
/-- Texts of no more than 2^20 letters. -/
def short : PDat → Prop
  | .mk _ _ t is => t.length ≤ 1048576 ∧ shorts is
def shorts : List PDat → Prop
  | [] => True
  | d :: r => short d ∧ shorts r
end
theorem shorts_mem : ∀ {ds : List PDat} {x : PDat}, shorts ds → x ∈ ds → x.short
  | d :: r, x, h, hx => by
    unfold shorts at h
    rcases List.mem_cons.1 hx with rfl | hx
    · exact h.1
    · exact shorts_mem h.2 hx
theorem short_eq (d : PDat) : d.short ↔ d.text.length ≤ 1048576 ∧ shorts d.items := by cases d; exact Iff.rfl
def small (d : PDat) : Prop := d.short ∧ d.cnt ≤ 1048576
theorem small_item {d x : PDat} (h : d.small) (hx : x ∈ d.items) : x.small :=
  ⟨shorts_mem ((short_eq d).1 h.1).2 hx, by have := cnt_item hx; have := h.2; omega⟩

/-! ### Sizes -/
mutual
def szD : PDat → Int → Int
  | .mk _ _ t is, n => if n - t.length < 0 then -1 else szDs is (n - t.length)
def szDs : List PDat → Int → Int
  | ds, n => if n - ds.length < 0 then -1 else szDGo ds (n - ds.length)
def szDGo : List PDat → Int → Int
  | [], n => n
  | d :: r, n => if szD d n < 0 then -1 else szDGo r (szD d n)
end

/-! ### Equality -/
mutual
def eqb : PDat → PDat → Bool
  | .mk k n t is, .mk k' n' t' is' => decide (k = k') && (decide (n = n') && (decide (t = t') && eqbs is is'))
def eqbs : List PDat → List PDat → Bool
  | [], [] => true
  | a :: r, b :: s => eqb a b && eqbs r s
  | [], _ :: _ => false
  | _ :: _, [] => false
end
mutual
theorem eqb_refl : ∀ d : PDat, eqb d d = true
  | .mk k n t is => by simp [eqb, eqbs_refl is]
theorem eqbs_refl : ∀ ds : List PDat, eqbs ds ds = true
  | [] => rfl
  | d :: r => by simp [eqbs, eqb_refl d, eqbs_refl r]
end
theorem eqb_eq (a b : PDat) : eqb a b = (decide (a.kind = b.kind) && (decide (a.number = b.number) && (decide (a.text = b.text) && eqbs a.items b.items))) := by cases a; cases b; rfl
theorem eqbs_nil : eqbs [] [] = true := rfl
theorem eqbs_len : ∀ {a b : List PDat}, eqbs a b = true → a.length = b.length
  | [], [], _ => rfl
  | x :: r, y :: s, h => by
    simp only [eqbs, Bool.and_eq_true] at h
    simp [eqbs_len h.2]
  | [], _ :: _, h => by simp [eqbs] at h
  | _ :: _, [], h => by simp [eqbs] at h
theorem eqbs_drop {a b : List PDat} {i : Nat} (h1 : i < a.length) (h2 : i < b.length) : eqbs (a.drop i) (b.drop i) = (eqb (a.getD i default) (b.getD i default) && eqbs (a.drop (i + 1)) (b.drop (i + 1))) := by
  rw [List.drop_eq_getElem_cons h1, List.drop_eq_getElem_cons h2]
  simp [eqbs, List.getD, List.getElem?_eq_getElem h1, List.getElem?_eq_getElem h2]

/-- What is shown of trees and of lists of trees by turns. -/
theorem ind {A : PDat → Prop} {B : List PDat → Prop} (hB : ∀ ds, (∀ x ∈ ds, A x) → B ds) (hA : ∀ d, B d.items → A d) : (∀ d, A d) ∧ ∀ ds, B ds := by
  have key : ∀ N, (∀ d : PDat, d.cnt < N → A d) ∧ ∀ ds : List PDat, cnts ds ≤ N → B ds := by
    intro N
    induction N with
    | zero => exact ⟨fun d h => by omega, fun ds h => hB ds fun x hx => by have := cnts_mem hx; omega⟩
    | succ N ih =>
      have hA' : ∀ d : PDat, d.cnt < N + 1 → A d := fun d h => hA d (ih.2 _ (by rw [← cnt_eq]; omega))
      exact ⟨hA', fun ds h => hB ds fun x hx => hA' x (by have := cnts_mem hx; omega)⟩
  exact ⟨fun d => (key (d.cnt + 1)).1 d (by omega), fun ds => (key (cnts ds)).2 ds (Nat.le_refl _)⟩

theorem szD_eq (d : PDat) (n : Int) : szD d n = if n - d.text.length < 0 then -1 else szDs d.items (n - d.text.length) := by cases d; rw [szD]; rfl
theorem szDs_eq (ds : List PDat) (n : Int) : szDs ds n = if n - ds.length < 0 then -1 else szDGo ds (n - ds.length) := by rw [szDs]
theorem szDGo_nil (n : Int) : szDGo [] n = n := by rw [szDGo]
theorem szDGo_cons (d : PDat) (r : List PDat) (n : Int) : szDGo (d :: r) n = if szD d n < 0 then -1 else szDGo r (szD d n) := by rw [szDGo]

theorem szGo_of (ds : List PDat) (h : ∀ x ∈ ds, ∀ n, 0 ≤ n → szD x n ≤ n ∧ -1 ≤ szD x n ∧ (0 ≤ szD x n → szD x n + x.cnt ≤ n ∧ (n ≤ 1048576 → x.short))) :
    ∀ n, 0 ≤ n → szDGo ds n ≤ n ∧ -1 ≤ szDGo ds n ∧ (0 ≤ szDGo ds n → szDGo ds n + cnts ds ≤ n + ds.length ∧ (n ≤ 1048576 → shorts ds)) := by
  induction ds with
  | nil => intro n h0; rw [szDGo_nil]; exact ⟨Int.le_refl _, by omega, fun _ => ⟨by simp [cnts], fun _ => trivial⟩⟩
  | cons d r ih =>
    intro n h0
    rw [szDGo_cons]
    have h1 := h d (by simp) n h0
    split
    · refine ⟨by omega, by omega, fun h => by omega⟩
    · have h2 := ih (fun x hx => h x (by simp [hx])) (szD d n) (by omega)
      refine ⟨by omega, h2.2.1, fun h3 => ?_⟩
      have h4 := h2.2.2 h3
      have h5 := h1.2.2 (by omega)
      unfold cnts shorts
      simp only [List.length_cons]
      exact ⟨by omega, fun h6 => ⟨h5.2 h6, h4.2 (by omega)⟩⟩
theorem sz_all : (∀ d : PDat, ∀ n, 0 ≤ n → szD d n ≤ n ∧ -1 ≤ szD d n ∧ (0 ≤ szD d n → szD d n + d.cnt ≤ n ∧ (n ≤ 1048576 → d.short))) ∧
    ∀ ds : List PDat, ∀ n, 0 ≤ n → szDs ds n ≤ n ∧ -1 ≤ szDs ds n ∧ (0 ≤ szDs ds n → szDs ds n + cnts ds ≤ n ∧ (n ≤ 1048576 → shorts ds)) := by
  refine ind (fun ds h n h0 => ?_) (fun d h n h0 => ?_)
  · rw [szDs_eq]
    split
    · refine ⟨by omega, by omega, fun h => by omega⟩
    · have h1 := szGo_of ds h (n - ds.length) (by omega)
      refine ⟨by omega, h1.2.1, fun h3 => ?_⟩
      have h4 := h1.2.2 h3
      exact ⟨by omega, fun h6 => h4.2 (by omega)⟩
  · rw [szD_eq]
    split
    · refine ⟨by omega, by omega, fun h => by omega⟩
    · have h1 := h (n - d.text.length) (by omega)
      refine ⟨by omega, h1.2.1, fun h3 => ?_⟩
      have h4 := h1.2.2 h3
      rw [cnt_eq, short_eq]
      exact ⟨by omega, fun h6 => ⟨by omega, h4.2 (by omega)⟩⟩
theorem szD_le {d : PDat} {n : Int} (h : 0 ≤ n) : szD d n ≤ n ∧ -1 ≤ szD d n := ⟨(sz_all.1 d n h).1, (sz_all.1 d n h).2.1⟩
theorem szD_small {d : PDat} {n : Int} (h : ¬ szD d n < 0) (h0 : 0 ≤ n) (hn : n ≤ 1048576) : d.small := by
  have := (sz_all.1 d n h0).2.2 (by omega)
  exact ⟨this.2 hn, by have := szD_le (d := d) h0; omega⟩
theorem szDGo_drop {ds : List PDat} {i : Nat} {n : Int} (h : i < ds.length) : szDGo (ds.drop i) n = if szD (ds.getD i default) n < 0 then -1 else szDGo (ds.drop (i + 1)) (szD (ds.getD i default) n) := by
  rw [List.drop_eq_getElem_cons h, szDGo_cons]
  simp [List.getD, List.getElem?_eq_getElem h]
end PDat

end Go.Abs
