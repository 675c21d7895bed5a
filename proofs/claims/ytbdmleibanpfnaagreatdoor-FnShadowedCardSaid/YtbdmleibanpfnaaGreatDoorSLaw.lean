/-
  The law, from what is known.
-/
import Derived.Test.YtbdmleibanpfnaaGreatDoorNAt
import Derived.Test.YtbdmleibanpfnaaGreatDoorSL
import Derived.Test.YtbdmleibanpfnaaGreatDoorSR1
import Derived.Test.YtbdmleibanpfnaaGreatDoorSR2
set_option linter.all false
set_option linter.all false
set_option maxRecDepth 100000
namespace Go.X1
open Go.Proofs
section
variable [Nu] {W0 : World}
theorem baseD (hW : WOK W0) {dt : List (Nat × Nat)} (h : DtOK dt) : CallOK Tryz.prog W0 (run (fItoaD dt) f198 noF noF 100) := run_ok (fun _ _ => c_ItoaD hW (fun i d q => (h i d q).1)) (fun _ hk => a198 hk) (fun _ _ => noF_ans) (fun _ _ => noF_ans) 100
theorem text0 (hW : WOK W0) (h1 : Nu.val 1 ≤ 89) : TextOK Tryz.prog W0 198 tx0 := by
  have all : FnOK Tryz.prog 198 ∧ ∀ (α : Al) (w : World) (args : List Value), HR W0 α w tx0.h → RepL α args tx0.a → Calls Tryz.prog 198 ⟨args⟩ w (fun e w' => ∃ u α' h', e = .returned u ∧ Step W0 α w tx0.h α' w' h' ∧ Rep α' u tx0.x) := by
    rcases itB_two (n := Nu.val 1) (by omega) with d1 | d1
    · exact text_ans (p := tx0) (dt := [(1, 1)]) (dt_cons d1 (by omega) dt_nil) (baseD hW (dt_cons d1 (by omega) dt_nil)) (tok := tok0) rfl evT0_1
    · exact text_ans (p := tx0) (dt := [(1, 2)]) (dt_cons d1 (by omega) dt_nil) (baseD hW (dt_cons d1 (by omega) dt_nil)) (tok := tok0) rfl evT0_2
  exact ⟨all.1, by kernel_rfl, by kernel_rfl, ft_of (by kernel_rfl), .inl rfl, all.2⟩
end
theorem law {W0 : World} (hW : WOK W0) {v : Value} {bs : List UInt8} (hi : Inp W0 v bs) : Calls Tryz.prog 8 #[v] W0 (fun e w' => e = .returned (.bool true) ∧ Agree W0 w') := by
  letI : Nu := ⟨atV bs 0 % 90, atV bs 1 % 90, atV bs 2 % 90, v⟩
  have hI : ∀ k, CallOK Tryz.prog W0 k → FnAns Tryz.prog W0 46 (fItoa k) := fun _ _ => c_Itoa hW
  by_cases hn : bs.length ≤ 1048576
  · have hB : ∃ cs el fz, W0.heap[1]? = some (.cells cs el fz) := let ⟨_, _, h⟩ := hW.pow; ⟨_, _, _, h⟩
    have e1 : Nu.val 1 = atV bs 0 % 90 := by show 1 % 10 * (atV bs 0 % 90) + 1 / 10 % 10 * (atV bs 1 % 90) + 1 / 100 % 10 * (atV bs 2 % 90) + 1 / 1000 = _; omega
    have b1 : Nu.val 1 ≤ 89 := by omega
    have hT : ∀ k, CallOK Tryz.prog W0 k → FnAns Tryz.prog W0 198 (fText txL f198 k) := fun _ hk => fText_ans (fun p hp => by
      simp only [txL, List.mem_cons, List.not_mem_nil, or_false] at hp
      rcases hp with rfl
      · exact text0 hW b1) (a198 hk)
    have cR : CallOK Tryz.prog W0 (run fItoa (fText txL f198) noF f23 100) := run_ok hI hT (fun _ _ => noF_ans) (fun _ hk => a23 hk) 100
    have hA : ∀ k, CallOK Tryz.prog W0 k → FnAns Tryz.prog W0 16 (fAt atL k) := fun _ _ => fAt_ans ⟨_, Tryz.func16, by kernel_rfl, by kernel_rfl⟩ fun j x hm => by
      simp only [atL, List.mem_cons, Prod.mk.injEq, List.not_mem_nil, or_false] at hm
      rcases hm with ⟨rfl, rfl⟩
      · exact ⟨atV bs 0, fun α => .ref (.raw (by rw [e1])), fun w A => at_run hi hn hB (by decide) w A⟩
    have cL : CallOK Tryz.prog W0 (run fItoa f198 (fAt atL) (fRun [kn1, kn2] noF) 100) := run_ok hI (fun _ hk => a198 hk) hA (fun _ _ => fRun_ans (fun p hp => by
      simp only [List.mem_cons, List.not_mem_nil, or_false] at hp
      rcases hp with rfl | rfl
      · exact known_of cR (by simp [kn1, x1]) ev1
      · exact known_of cR (by simp [kn2, x2]) ev2) noF_ans) 100
    exact (law_in cL hi (.inl ⟨rfl, hn⟩) evL).2
  · have cB : CallOK Tryz.prog W0 (run fItoa f198 noF noF 100) := run_ok hI (fun _ hk => a198 hk) (fun _ _ => noF_ans) (fun _ _ => noF_ans) 100
    exact (law_in cB hi (.inr ⟨rfl, by omega⟩) evB).2
end Go.X1
