/-
  The walks of OpName, both, and of their law: one for each place of the table, one below it, one above it. Made by wip/opname/opname.py.
-/
import Derived.Test.YtiecdekmiabmkaaDoorRows
import Derived.WalkKit
import Derived.Handy
set_option linter.unusedVariables false
set_option linter.unusedSimpArgs false
namespace Go.Proofs.YtiecdekmiabmkaaDoor
open Go

/-- Memory that was there stays. -/
structure Keeps (w w' : World) : Prop where
  size : w.heap.size ≤ w'.heap.size
  heap : ∀ b, b < w.heap.size → w'.heap[b]? = w.heap[b]?
  os : w'.os = w.os
  out : w'.output = w.output
theorem Keeps.refl (w : World) : Keeps w w := ⟨Nat.le_refl _, fun _ _ => rfl, rfl, rfl⟩
theorem Keeps.alloc (w : World) (cs : Array Value) (t : TypeId) : Keeps w (w.alloc (.cells cs t)) :=
  ⟨by show w.heap.size ≤ (w.heap.push _).size; simp, fun b hb => by show (w.heap.push _)[b]? = _; rw [Array.getElem?_push, if_neg (by omega)], rfl, rfl⟩
theorem Keeps.cell {w w' : World} (K : Keeps w w') {b o : Nat} {v : Value} (h : w.cell? ⟨b, o, none⟩ = some v) : w'.cell? ⟨b, o, none⟩ = some v := by
  unfold World.cell? at h ⊢
  have hb : b < w.heap.size := by
    rcases Nat.lt_or_ge b w.heap.size with h' | h'
    · exact h'
    · simp [Array.getElem?_eq_none h'] at h
  simpa [K.heap b hb] using h

theorem in_lo (w : World) (n : Int) (h : n < 1) : Calls Tryd.prog 20 #[.int .i64 n, .int .i64 1, .int .i64 20] w fun e w' => e = .returned (.bool false) ∧ w' = w := by
  go_enter Tryd.func20, Tryd.ntmps20
  go_wp2
  go_ret
  exact ⟨rfl, rfl⟩
theorem sp_lo (w : World) (n : Int) (h : n < 1) : Calls Tryd.prog 6 #[.int .i64 n] w fun e w' => e = .returned (.string ⟨#[]⟩) ∧ Keeps w w' := by
  go_enter Tryd.func6, Tryd.ntmps6
  go_wp2_with fail
  go_call (in_lo w n h) as e w' ⟨he, hw⟩
  subst he; subst hw
  go_wp2_with fail
  go_ret
  exact ⟨rfl, Keeps.refl _⟩
theorem im_lo (w : World) (n : Int) (h : n < 1) : Calls Tryd.prog 7 #[.int .i64 n] w fun e w' => e = .returned (.string ⟨#[]⟩) ∧ w' = w := by
  go_enter Tryd.func7, Tryd.ntmps7
  go_wp2
  go_ret
  exact ⟨rfl, rfl⟩
theorem law_lo (w : World) (n : Int) (h : n < 1) : Calls Tryd.prog 3 #[.int .i64 n] w fun e w' => e = .returned (.bool true) ∧ Keeps w w' := by
  go_enter Tryd.func3, Tryd.ntmps3
  go_wp2_with fail
  go_call (sp_lo w n h) as e w' ⟨he, hw⟩
  subst he
  go_wp2_with fail
  go_call (im_lo w' n h) as e w2 ⟨he, hw2⟩
  subst he; subst hw2
  go_wp2_with fail
  go_ret
  exact ⟨rfl, hw⟩
theorem in_hi (w : World) (n : Int) (h : 1 ≤ n) (h2 : 20 < n) : Calls Tryd.prog 20 #[.int .i64 n, .int .i64 1, .int .i64 20] w fun e w' => e = .returned (.bool false) ∧ w' = w := by
  go_enter Tryd.func20, Tryd.ntmps20
  go_wp2
  go_ret
  exact ⟨by simp; omega, rfl⟩
theorem sp_hi (w : World) (n : Int) (h : 1 ≤ n) (h2 : 20 < n) : Calls Tryd.prog 6 #[.int .i64 n] w fun e w' => e = .returned (.string ⟨#[]⟩) ∧ Keeps w w' := by
  go_enter Tryd.func6, Tryd.ntmps6
  go_wp2_with fail
  go_call (in_hi w n h h2) as e w' ⟨he, hw⟩
  subst he; subst hw
  go_wp2_with fail
  go_ret
  exact ⟨rfl, Keeps.refl _⟩
theorem im_hi (w : World) (n : Int) (h : 1 ≤ n) (h2 : 20 < n) : Calls Tryd.prog 7 #[.int .i64 n] w fun e w' => e = .returned (.string ⟨#[]⟩) ∧ w' = w := by
  go_enter Tryd.func7, Tryd.ntmps7
  go_wp2
  go_ret
  exact ⟨rfl, rfl⟩
theorem law_hi (w : World) (n : Int) (h : 1 ≤ n) (h2 : 20 < n) : Calls Tryd.prog 3 #[.int .i64 n] w fun e w' => e = .returned (.bool true) ∧ Keeps w w' := by
  go_enter Tryd.func3, Tryd.ntmps3
  go_wp2_with fail
  go_call (sp_hi w n h h2) as e w' ⟨he, hw⟩
  subst he
  go_wp2_with fail
  go_call (im_hi w' n h h2) as e w2 ⟨he, hw2⟩
  subst he; subst hw2
  go_wp2_with fail
  go_ret
  exact ⟨rfl, hw⟩
theorem in_1 (w : World) : Calls Tryd.prog 20 #[.int .i64 1, .int .i64 1, .int .i64 20] w fun e w' => e = .returned (.bool true) ∧ w' = w := by
  go_enter Tryd.func20, Tryd.ntmps20
  go_wp2
  go_ret
  exact ⟨rfl, rfl⟩
theorem sp_1 (w : World) : Calls Tryd.prog 6 #[.int .i64 1] w fun e w' => e = .returned (.string ⟨#[99, 111, 110, 115, 116, 97, 110, 116]⟩) ∧ Keeps w w' := by
  go_enter Tryd.func6, Tryd.ntmps6
  go_wp2_with fail
  go_call (in_1 w) as e w' ⟨he, hw⟩
  subst he; subst hw
  go_wp2_with fail
  go_ret
  exact ⟨rfl, Keeps.alloc _ _ _⟩
theorem im_1 (w : World) (h0 : w.cell? ⟨0, 0, none⟩ = some (.string ⟨#[99, 111, 110, 115, 116, 97, 110, 116]⟩)) : Calls Tryd.prog 7 #[.int .i64 1] w fun e w' => e = .returned (.string ⟨#[99, 111, 110, 115, 116, 97, 110, 116]⟩) ∧ w' = w := by
  go_enter Tryd.func7, Tryd.ntmps7
  go_wp2
  go_ret
  exact ⟨rfl, rfl⟩
theorem law_1 (w : World) (h0 : w.cell? ⟨0, 0, none⟩ = some (.string ⟨#[99, 111, 110, 115, 116, 97, 110, 116]⟩)) : Calls Tryd.prog 3 #[.int .i64 1] w fun e w' => e = .returned (.bool true) ∧ Keeps w w' := by
  go_enter Tryd.func3, Tryd.ntmps3
  go_wp2_with fail
  go_call (sp_1 w) as e w' ⟨he, hw⟩
  subst he
  go_wp2_with fail
  go_call (im_1 w' (hw.cell h0)) as e w2 ⟨he, hw2⟩
  subst he; subst hw2
  go_wp2_with fail
  go_ret
  exact ⟨rfl, hw⟩
theorem in_2 (w : World) : Calls Tryd.prog 20 #[.int .i64 2, .int .i64 1, .int .i64 20] w fun e w' => e = .returned (.bool true) ∧ w' = w := by
  go_enter Tryd.func20, Tryd.ntmps20
  go_wp2
  go_ret
  exact ⟨rfl, rfl⟩
theorem sp_2 (w : World) : Calls Tryd.prog 6 #[.int .i64 2] w fun e w' => e = .returned (.string ⟨#[112, 114, 105, 109, 105, 116, 105, 118, 101]⟩) ∧ Keeps w w' := by
  go_enter Tryd.func6, Tryd.ntmps6
  go_wp2_with fail
  go_call (in_2 w) as e w' ⟨he, hw⟩
  subst he; subst hw
  go_wp2_with fail
  go_ret
  exact ⟨rfl, Keeps.alloc _ _ _⟩
theorem im_2 (w : World) (h0 : w.cell? ⟨0, 1, none⟩ = some (.string ⟨#[112, 114, 105, 109, 105, 116, 105, 118, 101]⟩)) : Calls Tryd.prog 7 #[.int .i64 2] w fun e w' => e = .returned (.string ⟨#[112, 114, 105, 109, 105, 116, 105, 118, 101]⟩) ∧ w' = w := by
  go_enter Tryd.func7, Tryd.ntmps7
  go_wp2
  go_ret
  exact ⟨rfl, rfl⟩
theorem law_2 (w : World) (h0 : w.cell? ⟨0, 1, none⟩ = some (.string ⟨#[112, 114, 105, 109, 105, 116, 105, 118, 101]⟩)) : Calls Tryd.prog 3 #[.int .i64 2] w fun e w' => e = .returned (.bool true) ∧ Keeps w w' := by
  go_enter Tryd.func3, Tryd.ntmps3
  go_wp2_with fail
  go_call (sp_2 w) as e w' ⟨he, hw⟩
  subst he
  go_wp2_with fail
  go_call (im_2 w' (hw.cell h0)) as e w2 ⟨he, hw2⟩
  subst he; subst hw2
  go_wp2_with fail
  go_ret
  exact ⟨rfl, hw⟩
theorem in_3 (w : World) : Calls Tryd.prog 20 #[.int .i64 3, .int .i64 1, .int .i64 20] w fun e w' => e = .returned (.bool true) ∧ w' = w := by
  go_enter Tryd.func20, Tryd.ntmps20
  go_wp2
  go_ret
  exact ⟨rfl, rfl⟩
theorem sp_3 (w : World) : Calls Tryd.prog 6 #[.int .i64 3] w fun e w' => e = .returned (.string ⟨#[108, 111, 99, 97, 108]⟩) ∧ Keeps w w' := by
  go_enter Tryd.func6, Tryd.ntmps6
  go_wp2_with fail
  go_call (in_3 w) as e w' ⟨he, hw⟩
  subst he; subst hw
  go_wp2_with fail
  go_ret
  exact ⟨rfl, Keeps.alloc _ _ _⟩
theorem im_3 (w : World) (h0 : w.cell? ⟨0, 2, none⟩ = some (.string ⟨#[108, 111, 99, 97, 108]⟩)) : Calls Tryd.prog 7 #[.int .i64 3] w fun e w' => e = .returned (.string ⟨#[108, 111, 99, 97, 108]⟩) ∧ w' = w := by
  go_enter Tryd.func7, Tryd.ntmps7
  go_wp2
  go_ret
  exact ⟨rfl, rfl⟩
theorem law_3 (w : World) (h0 : w.cell? ⟨0, 2, none⟩ = some (.string ⟨#[108, 111, 99, 97, 108]⟩)) : Calls Tryd.prog 3 #[.int .i64 3] w fun e w' => e = .returned (.bool true) ∧ Keeps w w' := by
  go_enter Tryd.func3, Tryd.ntmps3
  go_wp2_with fail
  go_call (sp_3 w) as e w' ⟨he, hw⟩
  subst he
  go_wp2_with fail
  go_call (im_3 w' (hw.cell h0)) as e w2 ⟨he, hw2⟩
  subst he; subst hw2
  go_wp2_with fail
  go_ret
  exact ⟨rfl, hw⟩
theorem in_4 (w : World) : Calls Tryd.prog 20 #[.int .i64 4, .int .i64 1, .int .i64 20] w fun e w' => e = .returned (.bool true) ∧ w' = w := by
  go_enter Tryd.func20, Tryd.ntmps20
  go_wp2
  go_ret
  exact ⟨rfl, rfl⟩
theorem sp_4 (w : World) : Calls Tryd.prog 6 #[.int .i64 4] w fun e w' => e = .returned (.string ⟨#[99, 97, 112, 116, 117, 114, 101, 100]⟩) ∧ Keeps w w' := by
  go_enter Tryd.func6, Tryd.ntmps6
  go_wp2_with fail
  go_call (in_4 w) as e w' ⟨he, hw⟩
  subst he; subst hw
  go_wp2_with fail
  go_ret
  exact ⟨rfl, Keeps.alloc _ _ _⟩
theorem im_4 (w : World) (h0 : w.cell? ⟨0, 3, none⟩ = some (.string ⟨#[99, 97, 112, 116, 117, 114, 101, 100]⟩)) : Calls Tryd.prog 7 #[.int .i64 4] w fun e w' => e = .returned (.string ⟨#[99, 97, 112, 116, 117, 114, 101, 100]⟩) ∧ w' = w := by
  go_enter Tryd.func7, Tryd.ntmps7
  go_wp2
  go_ret
  exact ⟨rfl, rfl⟩
theorem law_4 (w : World) (h0 : w.cell? ⟨0, 3, none⟩ = some (.string ⟨#[99, 97, 112, 116, 117, 114, 101, 100]⟩)) : Calls Tryd.prog 3 #[.int .i64 4] w fun e w' => e = .returned (.bool true) ∧ Keeps w w' := by
  go_enter Tryd.func3, Tryd.ntmps3
  go_wp2_with fail
  go_call (sp_4 w) as e w' ⟨he, hw⟩
  subst he
  go_wp2_with fail
  go_call (im_4 w' (hw.cell h0)) as e w2 ⟨he, hw2⟩
  subst he; subst hw2
  go_wp2_with fail
  go_ret
  exact ⟨rfl, hw⟩
theorem in_5 (w : World) : Calls Tryd.prog 20 #[.int .i64 5, .int .i64 1, .int .i64 20] w fun e w' => e = .returned (.bool true) ∧ w' = w := by
  go_enter Tryd.func20, Tryd.ntmps20
  go_wp2
  go_ret
  exact ⟨rfl, rfl⟩
theorem sp_5 (w : World) : Calls Tryd.prog 6 #[.int .i64 5] w fun e w' => e = .returned (.string ⟨#[114, 101, 97, 100, 45, 108, 111, 99, 97, 108]⟩) ∧ Keeps w w' := by
  go_enter Tryd.func6, Tryd.ntmps6
  go_wp2_with fail
  go_call (in_5 w) as e w' ⟨he, hw⟩
  subst he; subst hw
  go_wp2_with fail
  go_ret
  exact ⟨rfl, Keeps.alloc _ _ _⟩
theorem im_5 (w : World) (h0 : w.cell? ⟨0, 4, none⟩ = some (.string ⟨#[114, 101, 97, 100, 45, 108, 111, 99, 97, 108]⟩)) : Calls Tryd.prog 7 #[.int .i64 5] w fun e w' => e = .returned (.string ⟨#[114, 101, 97, 100, 45, 108, 111, 99, 97, 108]⟩) ∧ w' = w := by
  go_enter Tryd.func7, Tryd.ntmps7
  go_wp2
  go_ret
  exact ⟨rfl, rfl⟩
theorem law_5 (w : World) (h0 : w.cell? ⟨0, 4, none⟩ = some (.string ⟨#[114, 101, 97, 100, 45, 108, 111, 99, 97, 108]⟩)) : Calls Tryd.prog 3 #[.int .i64 5] w fun e w' => e = .returned (.bool true) ∧ Keeps w w' := by
  go_enter Tryd.func3, Tryd.ntmps3
  go_wp2_with fail
  go_call (sp_5 w) as e w' ⟨he, hw⟩
  subst he
  go_wp2_with fail
  go_call (im_5 w' (hw.cell h0)) as e w2 ⟨he, hw2⟩
  subst he; subst hw2
  go_wp2_with fail
  go_ret
  exact ⟨rfl, hw⟩
theorem in_6 (w : World) : Calls Tryd.prog 20 #[.int .i64 6, .int .i64 1, .int .i64 20] w fun e w' => e = .returned (.bool true) ∧ w' = w := by
  go_enter Tryd.func20, Tryd.ntmps20
  go_wp2
  go_ret
  exact ⟨rfl, rfl⟩
theorem sp_6 (w : World) : Calls Tryd.prog 6 #[.int .i64 6] w fun e w' => e = .returned (.string ⟨#[114, 101, 97, 100, 45, 98, 111, 120]⟩) ∧ Keeps w w' := by
  go_enter Tryd.func6, Tryd.ntmps6
  go_wp2_with fail
  go_call (in_6 w) as e w' ⟨he, hw⟩
  subst he; subst hw
  go_wp2_with fail
  go_ret
  exact ⟨rfl, Keeps.alloc _ _ _⟩
theorem im_6 (w : World) (h0 : w.cell? ⟨0, 5, none⟩ = some (.string ⟨#[114, 101, 97, 100, 45, 98, 111, 120]⟩)) : Calls Tryd.prog 7 #[.int .i64 6] w fun e w' => e = .returned (.string ⟨#[114, 101, 97, 100, 45, 98, 111, 120]⟩) ∧ w' = w := by
  go_enter Tryd.func7, Tryd.ntmps7
  go_wp2
  go_ret
  exact ⟨rfl, rfl⟩
theorem law_6 (w : World) (h0 : w.cell? ⟨0, 5, none⟩ = some (.string ⟨#[114, 101, 97, 100, 45, 98, 111, 120]⟩)) : Calls Tryd.prog 3 #[.int .i64 6] w fun e w' => e = .returned (.bool true) ∧ Keeps w w' := by
  go_enter Tryd.func3, Tryd.ntmps3
  go_wp2_with fail
  go_call (sp_6 w) as e w' ⟨he, hw⟩
  subst he
  go_wp2_with fail
  go_call (im_6 w' (hw.cell h0)) as e w2 ⟨he, hw2⟩
  subst he; subst hw2
  go_wp2_with fail
  go_ret
  exact ⟨rfl, hw⟩
theorem in_7 (w : World) : Calls Tryd.prog 20 #[.int .i64 7, .int .i64 1, .int .i64 20] w fun e w' => e = .returned (.bool true) ∧ w' = w := by
  go_enter Tryd.func20, Tryd.ntmps20
  go_wp2
  go_ret
  exact ⟨rfl, rfl⟩
theorem sp_7 (w : World) : Calls Tryd.prog 6 #[.int .i64 7] w fun e w' => e = .returned (.string ⟨#[119, 114, 105, 116, 101, 45, 108, 111, 99, 97, 108]⟩) ∧ Keeps w w' := by
  go_enter Tryd.func6, Tryd.ntmps6
  go_wp2_with fail
  go_call (in_7 w) as e w' ⟨he, hw⟩
  subst he; subst hw
  go_wp2_with fail
  go_ret
  exact ⟨rfl, Keeps.alloc _ _ _⟩
theorem im_7 (w : World) (h0 : w.cell? ⟨0, 6, none⟩ = some (.string ⟨#[119, 114, 105, 116, 101, 45, 108, 111, 99, 97, 108]⟩)) : Calls Tryd.prog 7 #[.int .i64 7] w fun e w' => e = .returned (.string ⟨#[119, 114, 105, 116, 101, 45, 108, 111, 99, 97, 108]⟩) ∧ w' = w := by
  go_enter Tryd.func7, Tryd.ntmps7
  go_wp2
  go_ret
  exact ⟨rfl, rfl⟩
theorem law_7 (w : World) (h0 : w.cell? ⟨0, 6, none⟩ = some (.string ⟨#[119, 114, 105, 116, 101, 45, 108, 111, 99, 97, 108]⟩)) : Calls Tryd.prog 3 #[.int .i64 7] w fun e w' => e = .returned (.bool true) ∧ Keeps w w' := by
  go_enter Tryd.func3, Tryd.ntmps3
  go_wp2_with fail
  go_call (sp_7 w) as e w' ⟨he, hw⟩
  subst he
  go_wp2_with fail
  go_call (im_7 w' (hw.cell h0)) as e w2 ⟨he, hw2⟩
  subst he; subst hw2
  go_wp2_with fail
  go_ret
  exact ⟨rfl, hw⟩
theorem in_8 (w : World) : Calls Tryd.prog 20 #[.int .i64 8, .int .i64 1, .int .i64 20] w fun e w' => e = .returned (.bool true) ∧ w' = w := by
  go_enter Tryd.func20, Tryd.ntmps20
  go_wp2
  go_ret
  exact ⟨rfl, rfl⟩
theorem sp_8 (w : World) : Calls Tryd.prog 6 #[.int .i64 8] w fun e w' => e = .returned (.string ⟨#[119, 114, 105, 116, 101, 45, 98, 111, 120]⟩) ∧ Keeps w w' := by
  go_enter Tryd.func6, Tryd.ntmps6
  go_wp2_with fail
  go_call (in_8 w) as e w' ⟨he, hw⟩
  subst he; subst hw
  go_wp2_with fail
  go_ret
  exact ⟨rfl, Keeps.alloc _ _ _⟩
theorem im_8 (w : World) (h0 : w.cell? ⟨0, 7, none⟩ = some (.string ⟨#[119, 114, 105, 116, 101, 45, 98, 111, 120]⟩)) : Calls Tryd.prog 7 #[.int .i64 8] w fun e w' => e = .returned (.string ⟨#[119, 114, 105, 116, 101, 45, 98, 111, 120]⟩) ∧ w' = w := by
  go_enter Tryd.func7, Tryd.ntmps7
  go_wp2
  go_ret
  exact ⟨rfl, rfl⟩
theorem law_8 (w : World) (h0 : w.cell? ⟨0, 7, none⟩ = some (.string ⟨#[119, 114, 105, 116, 101, 45, 98, 111, 120]⟩)) : Calls Tryd.prog 3 #[.int .i64 8] w fun e w' => e = .returned (.bool true) ∧ Keeps w w' := by
  go_enter Tryd.func3, Tryd.ntmps3
  go_wp2_with fail
  go_call (sp_8 w) as e w' ⟨he, hw⟩
  subst he
  go_wp2_with fail
  go_call (im_8 w' (hw.cell h0)) as e w2 ⟨he, hw2⟩
  subst he; subst hw2
  go_wp2_with fail
  go_ret
  exact ⟨rfl, hw⟩
theorem in_9 (w : World) : Calls Tryd.prog 20 #[.int .i64 9, .int .i64 1, .int .i64 20] w fun e w' => e = .returned (.bool true) ∧ w' = w := by
  go_enter Tryd.func20, Tryd.ntmps20
  go_wp2
  go_ret
  exact ⟨rfl, rfl⟩
theorem sp_9 (w : World) : Calls Tryd.prog 6 #[.int .i64 9] w fun e w' => e = .returned (.string ⟨#[110, 101, 119, 45, 98, 111, 120]⟩) ∧ Keeps w w' := by
  go_enter Tryd.func6, Tryd.ntmps6
  go_wp2_with fail
  go_call (in_9 w) as e w' ⟨he, hw⟩
  subst he; subst hw
  go_wp2_with fail
  go_ret
  exact ⟨rfl, Keeps.alloc _ _ _⟩
theorem im_9 (w : World) (h0 : w.cell? ⟨0, 8, none⟩ = some (.string ⟨#[110, 101, 119, 45, 98, 111, 120]⟩)) : Calls Tryd.prog 7 #[.int .i64 9] w fun e w' => e = .returned (.string ⟨#[110, 101, 119, 45, 98, 111, 120]⟩) ∧ w' = w := by
  go_enter Tryd.func7, Tryd.ntmps7
  go_wp2
  go_ret
  exact ⟨rfl, rfl⟩
theorem law_9 (w : World) (h0 : w.cell? ⟨0, 8, none⟩ = some (.string ⟨#[110, 101, 119, 45, 98, 111, 120]⟩)) : Calls Tryd.prog 3 #[.int .i64 9] w fun e w' => e = .returned (.bool true) ∧ Keeps w w' := by
  go_enter Tryd.func3, Tryd.ntmps3
  go_wp2_with fail
  go_call (sp_9 w) as e w' ⟨he, hw⟩
  subst he
  go_wp2_with fail
  go_call (im_9 w' (hw.cell h0)) as e w2 ⟨he, hw2⟩
  subst he; subst hw2
  go_wp2_with fail
  go_ret
  exact ⟨rfl, hw⟩
theorem in_10 (w : World) : Calls Tryd.prog 20 #[.int .i64 10, .int .i64 1, .int .i64 20] w fun e w' => e = .returned (.bool true) ∧ w' = w := by
  go_enter Tryd.func20, Tryd.ntmps20
  go_wp2
  go_ret
  exact ⟨rfl, rfl⟩
theorem sp_10 (w : World) : Calls Tryd.prog 6 #[.int .i64 10] w fun e w' => e = .returned (.string ⟨#[98, 111, 120, 45, 112, 97, 114, 97, 109]⟩) ∧ Keeps w w' := by
  go_enter Tryd.func6, Tryd.ntmps6
  go_wp2_with fail
  go_call (in_10 w) as e w' ⟨he, hw⟩
  subst he; subst hw
  go_wp2_with fail
  go_ret
  exact ⟨rfl, Keeps.alloc _ _ _⟩
theorem im_10 (w : World) (h0 : w.cell? ⟨0, 9, none⟩ = some (.string ⟨#[98, 111, 120, 45, 112, 97, 114, 97, 109]⟩)) : Calls Tryd.prog 7 #[.int .i64 10] w fun e w' => e = .returned (.string ⟨#[98, 111, 120, 45, 112, 97, 114, 97, 109]⟩) ∧ w' = w := by
  go_enter Tryd.func7, Tryd.ntmps7
  go_wp2
  go_ret
  exact ⟨rfl, rfl⟩
theorem law_10 (w : World) (h0 : w.cell? ⟨0, 9, none⟩ = some (.string ⟨#[98, 111, 120, 45, 112, 97, 114, 97, 109]⟩)) : Calls Tryd.prog 3 #[.int .i64 10] w fun e w' => e = .returned (.bool true) ∧ Keeps w w' := by
  go_enter Tryd.func3, Tryd.ntmps3
  go_wp2_with fail
  go_call (sp_10 w) as e w' ⟨he, hw⟩
  subst he
  go_wp2_with fail
  go_call (im_10 w' (hw.cell h0)) as e w2 ⟨he, hw2⟩
  subst he; subst hw2
  go_wp2_with fail
  go_ret
  exact ⟨rfl, hw⟩
theorem in_11 (w : World) : Calls Tryd.prog 20 #[.int .i64 11, .int .i64 1, .int .i64 20] w fun e w' => e = .returned (.bool true) ∧ w' = w := by
  go_enter Tryd.func20, Tryd.ntmps20
  go_wp2
  go_ret
  exact ⟨rfl, rfl⟩
theorem sp_11 (w : World) : Calls Tryd.prog 6 #[.int .i64 11] w fun e w' => e = .returned (.string ⟨#[99, 108, 111, 115, 117, 114, 101]⟩) ∧ Keeps w w' := by
  go_enter Tryd.func6, Tryd.ntmps6
  go_wp2_with fail
  go_call (in_11 w) as e w' ⟨he, hw⟩
  subst he; subst hw
  go_wp2_with fail
  go_ret
  exact ⟨rfl, Keeps.alloc _ _ _⟩
theorem im_11 (w : World) (h0 : w.cell? ⟨0, 10, none⟩ = some (.string ⟨#[99, 108, 111, 115, 117, 114, 101]⟩)) : Calls Tryd.prog 7 #[.int .i64 11] w fun e w' => e = .returned (.string ⟨#[99, 108, 111, 115, 117, 114, 101]⟩) ∧ w' = w := by
  go_enter Tryd.func7, Tryd.ntmps7
  go_wp2
  go_ret
  exact ⟨rfl, rfl⟩
theorem law_11 (w : World) (h0 : w.cell? ⟨0, 10, none⟩ = some (.string ⟨#[99, 108, 111, 115, 117, 114, 101]⟩)) : Calls Tryd.prog 3 #[.int .i64 11] w fun e w' => e = .returned (.bool true) ∧ Keeps w w' := by
  go_enter Tryd.func3, Tryd.ntmps3
  go_wp2_with fail
  go_call (sp_11 w) as e w' ⟨he, hw⟩
  subst he
  go_wp2_with fail
  go_call (im_11 w' (hw.cell h0)) as e w2 ⟨he, hw2⟩
  subst he; subst hw2
  go_wp2_with fail
  go_ret
  exact ⟨rfl, hw⟩
theorem in_12 (w : World) : Calls Tryd.prog 20 #[.int .i64 12, .int .i64 1, .int .i64 20] w fun e w' => e = .returned (.bool true) ∧ w' = w := by
  go_enter Tryd.func20, Tryd.ntmps20
  go_wp2
  go_ret
  exact ⟨rfl, rfl⟩
theorem sp_12 (w : World) : Calls Tryd.prog 6 #[.int .i64 12] w fun e w' => e = .returned (.string ⟨#[99, 97, 108, 108]⟩) ∧ Keeps w w' := by
  go_enter Tryd.func6, Tryd.ntmps6
  go_wp2_with fail
  go_call (in_12 w) as e w' ⟨he, hw⟩
  subst he; subst hw
  go_wp2_with fail
  go_ret
  exact ⟨rfl, Keeps.alloc _ _ _⟩
theorem im_12 (w : World) (h0 : w.cell? ⟨0, 11, none⟩ = some (.string ⟨#[99, 97, 108, 108]⟩)) : Calls Tryd.prog 7 #[.int .i64 12] w fun e w' => e = .returned (.string ⟨#[99, 97, 108, 108]⟩) ∧ w' = w := by
  go_enter Tryd.func7, Tryd.ntmps7
  go_wp2
  go_ret
  exact ⟨rfl, rfl⟩
theorem law_12 (w : World) (h0 : w.cell? ⟨0, 11, none⟩ = some (.string ⟨#[99, 97, 108, 108]⟩)) : Calls Tryd.prog 3 #[.int .i64 12] w fun e w' => e = .returned (.bool true) ∧ Keeps w w' := by
  go_enter Tryd.func3, Tryd.ntmps3
  go_wp2_with fail
  go_call (sp_12 w) as e w' ⟨he, hw⟩
  subst he
  go_wp2_with fail
  go_call (im_12 w' (hw.cell h0)) as e w2 ⟨he, hw2⟩
  subst he; subst hw2
  go_wp2_with fail
  go_ret
  exact ⟨rfl, hw⟩
theorem in_13 (w : World) : Calls Tryd.prog 20 #[.int .i64 13, .int .i64 1, .int .i64 20] w fun e w' => e = .returned (.bool true) ∧ w' = w := by
  go_enter Tryd.func20, Tryd.ntmps20
  go_wp2
  go_ret
  exact ⟨rfl, rfl⟩
theorem sp_13 (w : World) : Calls Tryd.prog 6 #[.int .i64 13] w fun e w' => e = .returned (.string ⟨#[116, 97, 105, 108, 45, 99, 97, 108, 108]⟩) ∧ Keeps w w' := by
  go_enter Tryd.func6, Tryd.ntmps6
  go_wp2_with fail
  go_call (in_13 w) as e w' ⟨he, hw⟩
  subst he; subst hw
  go_wp2_with fail
  go_ret
  exact ⟨rfl, Keeps.alloc _ _ _⟩
theorem im_13 (w : World) (h0 : w.cell? ⟨0, 12, none⟩ = some (.string ⟨#[116, 97, 105, 108, 45, 99, 97, 108, 108]⟩)) : Calls Tryd.prog 7 #[.int .i64 13] w fun e w' => e = .returned (.string ⟨#[116, 97, 105, 108, 45, 99, 97, 108, 108]⟩) ∧ w' = w := by
  go_enter Tryd.func7, Tryd.ntmps7
  go_wp2
  go_ret
  exact ⟨rfl, rfl⟩
theorem law_13 (w : World) (h0 : w.cell? ⟨0, 12, none⟩ = some (.string ⟨#[116, 97, 105, 108, 45, 99, 97, 108, 108]⟩)) : Calls Tryd.prog 3 #[.int .i64 13] w fun e w' => e = .returned (.bool true) ∧ Keeps w w' := by
  go_enter Tryd.func3, Tryd.ntmps3
  go_wp2_with fail
  go_call (sp_13 w) as e w' ⟨he, hw⟩
  subst he
  go_wp2_with fail
  go_call (im_13 w' (hw.cell h0)) as e w2 ⟨he, hw2⟩
  subst he; subst hw2
  go_wp2_with fail
  go_ret
  exact ⟨rfl, hw⟩
theorem in_14 (w : World) : Calls Tryd.prog 20 #[.int .i64 14, .int .i64 1, .int .i64 20] w fun e w' => e = .returned (.bool true) ∧ w' = w := by
  go_enter Tryd.func20, Tryd.ntmps20
  go_wp2
  go_ret
  exact ⟨rfl, rfl⟩
theorem sp_14 (w : World) : Calls Tryd.prog 6 #[.int .i64 14] w fun e w' => e = .returned (.string ⟨#[114, 101, 116, 117, 114, 110]⟩) ∧ Keeps w w' := by
  go_enter Tryd.func6, Tryd.ntmps6
  go_wp2_with fail
  go_call (in_14 w) as e w' ⟨he, hw⟩
  subst he; subst hw
  go_wp2_with fail
  go_ret
  exact ⟨rfl, Keeps.alloc _ _ _⟩
theorem im_14 (w : World) (h0 : w.cell? ⟨0, 13, none⟩ = some (.string ⟨#[114, 101, 116, 117, 114, 110]⟩)) : Calls Tryd.prog 7 #[.int .i64 14] w fun e w' => e = .returned (.string ⟨#[114, 101, 116, 117, 114, 110]⟩) ∧ w' = w := by
  go_enter Tryd.func7, Tryd.ntmps7
  go_wp2
  go_ret
  exact ⟨rfl, rfl⟩
theorem law_14 (w : World) (h0 : w.cell? ⟨0, 13, none⟩ = some (.string ⟨#[114, 101, 116, 117, 114, 110]⟩)) : Calls Tryd.prog 3 #[.int .i64 14] w fun e w' => e = .returned (.bool true) ∧ Keeps w w' := by
  go_enter Tryd.func3, Tryd.ntmps3
  go_wp2_with fail
  go_call (sp_14 w) as e w' ⟨he, hw⟩
  subst he
  go_wp2_with fail
  go_call (im_14 w' (hw.cell h0)) as e w2 ⟨he, hw2⟩
  subst he; subst hw2
  go_wp2_with fail
  go_ret
  exact ⟨rfl, hw⟩
theorem in_15 (w : World) : Calls Tryd.prog 20 #[.int .i64 15, .int .i64 1, .int .i64 20] w fun e w' => e = .returned (.bool true) ∧ w' = w := by
  go_enter Tryd.func20, Tryd.ntmps20
  go_wp2
  go_ret
  exact ⟨rfl, rfl⟩
theorem sp_15 (w : World) : Calls Tryd.prog 6 #[.int .i64 15] w fun e w' => e = .returned (.string ⟨#[106, 117, 109, 112]⟩) ∧ Keeps w w' := by
  go_enter Tryd.func6, Tryd.ntmps6
  go_wp2_with fail
  go_call (in_15 w) as e w' ⟨he, hw⟩
  subst he; subst hw
  go_wp2_with fail
  go_ret
  exact ⟨rfl, Keeps.alloc _ _ _⟩
theorem im_15 (w : World) (h0 : w.cell? ⟨0, 14, none⟩ = some (.string ⟨#[106, 117, 109, 112]⟩)) : Calls Tryd.prog 7 #[.int .i64 15] w fun e w' => e = .returned (.string ⟨#[106, 117, 109, 112]⟩) ∧ w' = w := by
  go_enter Tryd.func7, Tryd.ntmps7
  go_wp2
  go_ret
  exact ⟨rfl, rfl⟩
theorem law_15 (w : World) (h0 : w.cell? ⟨0, 14, none⟩ = some (.string ⟨#[106, 117, 109, 112]⟩)) : Calls Tryd.prog 3 #[.int .i64 15] w fun e w' => e = .returned (.bool true) ∧ Keeps w w' := by
  go_enter Tryd.func3, Tryd.ntmps3
  go_wp2_with fail
  go_call (sp_15 w) as e w' ⟨he, hw⟩
  subst he
  go_wp2_with fail
  go_call (im_15 w' (hw.cell h0)) as e w2 ⟨he, hw2⟩
  subst he; subst hw2
  go_wp2_with fail
  go_ret
  exact ⟨rfl, hw⟩
theorem in_16 (w : World) : Calls Tryd.prog 20 #[.int .i64 16, .int .i64 1, .int .i64 20] w fun e w' => e = .returned (.bool true) ∧ w' = w := by
  go_enter Tryd.func20, Tryd.ntmps20
  go_wp2
  go_ret
  exact ⟨rfl, rfl⟩
theorem sp_16 (w : World) : Calls Tryd.prog 6 #[.int .i64 16] w fun e w' => e = .returned (.string ⟨#[106, 117, 109, 112, 45, 105, 102, 45, 102, 97, 108, 115, 101]⟩) ∧ Keeps w w' := by
  go_enter Tryd.func6, Tryd.ntmps6
  go_wp2_with fail
  go_call (in_16 w) as e w' ⟨he, hw⟩
  subst he; subst hw
  go_wp2_with fail
  go_ret
  exact ⟨rfl, Keeps.alloc _ _ _⟩
theorem im_16 (w : World) (h0 : w.cell? ⟨0, 15, none⟩ = some (.string ⟨#[106, 117, 109, 112, 45, 105, 102, 45, 102, 97, 108, 115, 101]⟩)) : Calls Tryd.prog 7 #[.int .i64 16] w fun e w' => e = .returned (.string ⟨#[106, 117, 109, 112, 45, 105, 102, 45, 102, 97, 108, 115, 101]⟩) ∧ w' = w := by
  go_enter Tryd.func7, Tryd.ntmps7
  go_wp2
  go_ret
  exact ⟨rfl, rfl⟩
theorem law_16 (w : World) (h0 : w.cell? ⟨0, 15, none⟩ = some (.string ⟨#[106, 117, 109, 112, 45, 105, 102, 45, 102, 97, 108, 115, 101]⟩)) : Calls Tryd.prog 3 #[.int .i64 16] w fun e w' => e = .returned (.bool true) ∧ Keeps w w' := by
  go_enter Tryd.func3, Tryd.ntmps3
  go_wp2_with fail
  go_call (sp_16 w) as e w' ⟨he, hw⟩
  subst he
  go_wp2_with fail
  go_call (im_16 w' (hw.cell h0)) as e w2 ⟨he, hw2⟩
  subst he; subst hw2
  go_wp2_with fail
  go_ret
  exact ⟨rfl, hw⟩
theorem in_17 (w : World) : Calls Tryd.prog 20 #[.int .i64 17, .int .i64 1, .int .i64 20] w fun e w' => e = .returned (.bool true) ∧ w' = w := by
  go_enter Tryd.func20, Tryd.ntmps20
  go_wp2
  go_ret
  exact ⟨rfl, rfl⟩
theorem sp_17 (w : World) : Calls Tryd.prog 6 #[.int .i64 17] w fun e w' => e = .returned (.string ⟨#[112, 111, 112]⟩) ∧ Keeps w w' := by
  go_enter Tryd.func6, Tryd.ntmps6
  go_wp2_with fail
  go_call (in_17 w) as e w' ⟨he, hw⟩
  subst he; subst hw
  go_wp2_with fail
  go_ret
  exact ⟨rfl, Keeps.alloc _ _ _⟩
theorem im_17 (w : World) (h0 : w.cell? ⟨0, 16, none⟩ = some (.string ⟨#[112, 111, 112]⟩)) : Calls Tryd.prog 7 #[.int .i64 17] w fun e w' => e = .returned (.string ⟨#[112, 111, 112]⟩) ∧ w' = w := by
  go_enter Tryd.func7, Tryd.ntmps7
  go_wp2
  go_ret
  exact ⟨rfl, rfl⟩
theorem law_17 (w : World) (h0 : w.cell? ⟨0, 16, none⟩ = some (.string ⟨#[112, 111, 112]⟩)) : Calls Tryd.prog 3 #[.int .i64 17] w fun e w' => e = .returned (.bool true) ∧ Keeps w w' := by
  go_enter Tryd.func3, Tryd.ntmps3
  go_wp2_with fail
  go_call (sp_17 w) as e w' ⟨he, hw⟩
  subst he
  go_wp2_with fail
  go_call (im_17 w' (hw.cell h0)) as e w2 ⟨he, hw2⟩
  subst he; subst hw2
  go_wp2_with fail
  go_ret
  exact ⟨rfl, hw⟩
theorem in_18 (w : World) : Calls Tryd.prog 20 #[.int .i64 18, .int .i64 1, .int .i64 20] w fun e w' => e = .returned (.bool true) ∧ w' = w := by
  go_enter Tryd.func20, Tryd.ntmps20
  go_wp2
  go_ret
  exact ⟨rfl, rfl⟩
theorem sp_18 (w : World) : Calls Tryd.prog 6 #[.int .i64 18] w fun e w' => e = .returned (.string ⟨#[114, 101, 115, 101, 116]⟩) ∧ Keeps w w' := by
  go_enter Tryd.func6, Tryd.ntmps6
  go_wp2_with fail
  go_call (in_18 w) as e w' ⟨he, hw⟩
  subst he; subst hw
  go_wp2_with fail
  go_ret
  exact ⟨rfl, Keeps.alloc _ _ _⟩
theorem im_18 (w : World) (h0 : w.cell? ⟨0, 17, none⟩ = some (.string ⟨#[114, 101, 115, 101, 116]⟩)) : Calls Tryd.prog 7 #[.int .i64 18] w fun e w' => e = .returned (.string ⟨#[114, 101, 115, 101, 116]⟩) ∧ w' = w := by
  go_enter Tryd.func7, Tryd.ntmps7
  go_wp2
  go_ret
  exact ⟨rfl, rfl⟩
theorem law_18 (w : World) (h0 : w.cell? ⟨0, 17, none⟩ = some (.string ⟨#[114, 101, 115, 101, 116]⟩)) : Calls Tryd.prog 3 #[.int .i64 18] w fun e w' => e = .returned (.bool true) ∧ Keeps w w' := by
  go_enter Tryd.func3, Tryd.ntmps3
  go_wp2_with fail
  go_call (sp_18 w) as e w' ⟨he, hw⟩
  subst he
  go_wp2_with fail
  go_call (im_18 w' (hw.cell h0)) as e w2 ⟨he, hw2⟩
  subst he; subst hw2
  go_wp2_with fail
  go_ret
  exact ⟨rfl, hw⟩
theorem in_19 (w : World) : Calls Tryd.prog 20 #[.int .i64 19, .int .i64 1, .int .i64 20] w fun e w' => e = .returned (.bool true) ∧ w' = w := by
  go_enter Tryd.func20, Tryd.ntmps20
  go_wp2
  go_ret
  exact ⟨rfl, rfl⟩
theorem sp_19 (w : World) : Calls Tryd.prog 6 #[.int .i64 19] w fun e w' => e = .returned (.string ⟨#[115, 104, 105, 102, 116]⟩) ∧ Keeps w w' := by
  go_enter Tryd.func6, Tryd.ntmps6
  go_wp2_with fail
  go_call (in_19 w) as e w' ⟨he, hw⟩
  subst he; subst hw
  go_wp2_with fail
  go_ret
  exact ⟨rfl, Keeps.alloc _ _ _⟩
theorem im_19 (w : World) (h0 : w.cell? ⟨0, 18, none⟩ = some (.string ⟨#[115, 104, 105, 102, 116]⟩)) : Calls Tryd.prog 7 #[.int .i64 19] w fun e w' => e = .returned (.string ⟨#[115, 104, 105, 102, 116]⟩) ∧ w' = w := by
  go_enter Tryd.func7, Tryd.ntmps7
  go_wp2
  go_ret
  exact ⟨rfl, rfl⟩
theorem law_19 (w : World) (h0 : w.cell? ⟨0, 18, none⟩ = some (.string ⟨#[115, 104, 105, 102, 116]⟩)) : Calls Tryd.prog 3 #[.int .i64 19] w fun e w' => e = .returned (.bool true) ∧ Keeps w w' := by
  go_enter Tryd.func3, Tryd.ntmps3
  go_wp2_with fail
  go_call (sp_19 w) as e w' ⟨he, hw⟩
  subst he
  go_wp2_with fail
  go_call (im_19 w' (hw.cell h0)) as e w2 ⟨he, hw2⟩
  subst he; subst hw2
  go_wp2_with fail
  go_ret
  exact ⟨rfl, hw⟩
theorem in_20 (w : World) : Calls Tryd.prog 20 #[.int .i64 20, .int .i64 1, .int .i64 20] w fun e w' => e = .returned (.bool true) ∧ w' = w := by
  go_enter Tryd.func20, Tryd.ntmps20
  go_wp2
  go_ret
  exact ⟨rfl, rfl⟩
theorem sp_20 (w : World) : Calls Tryd.prog 6 #[.int .i64 20] w fun e w' => e = .returned (.string ⟨#[101, 110, 116, 101, 114]⟩) ∧ Keeps w w' := by
  go_enter Tryd.func6, Tryd.ntmps6
  go_wp2_with fail
  go_call (in_20 w) as e w' ⟨he, hw⟩
  subst he; subst hw
  go_wp2_with fail
  go_ret
  exact ⟨rfl, Keeps.alloc _ _ _⟩
theorem im_20 (w : World) (h0 : w.cell? ⟨0, 19, none⟩ = some (.string ⟨#[101, 110, 116, 101, 114]⟩)) : Calls Tryd.prog 7 #[.int .i64 20] w fun e w' => e = .returned (.string ⟨#[101, 110, 116, 101, 114]⟩) ∧ w' = w := by
  go_enter Tryd.func7, Tryd.ntmps7
  go_wp2
  go_ret
  exact ⟨rfl, rfl⟩
theorem law_20 (w : World) (h0 : w.cell? ⟨0, 19, none⟩ = some (.string ⟨#[101, 110, 116, 101, 114]⟩)) : Calls Tryd.prog 3 #[.int .i64 20] w fun e w' => e = .returned (.bool true) ∧ Keeps w w' := by
  go_enter Tryd.func3, Tryd.ntmps3
  go_wp2_with fail
  go_call (sp_20 w) as e w' ⟨he, hw⟩
  subst he
  go_wp2_with fail
  go_call (im_20 w' (hw.cell h0)) as e w2 ⟨he, hw2⟩
  subst he; subst hw2
  go_wp2_with fail
  go_ret
  exact ⟨rfl, hw⟩
end Go.Proofs.YtiecdekmiabmkaaDoor
