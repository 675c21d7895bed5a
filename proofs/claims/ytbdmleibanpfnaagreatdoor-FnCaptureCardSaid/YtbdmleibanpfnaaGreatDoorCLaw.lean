/-
  The law, from what is known.
-/
import Derived.Test.YtbdmleibanpfnaaGreatDoorNAt
import Derived.Test.YtbdmleibanpfnaaGreatDoorLibE
import Derived.Test.YtbdmleibanpfnaaGreatDoorCRW
import Derived.Test.YtbdmleibanpfnaaGreatDoorCL
import Derived.Test.YtbdmleibanpfnaaGreatDoorCR0
import Derived.Test.YtbdmleibanpfnaaGreatDoorCR1
import Derived.Test.YtbdmleibanpfnaaGreatDoorCR2
import Derived.Test.YtbdmleibanpfnaaGreatDoorCR3
import Derived.Test.YtbdmleibanpfnaaGreatDoorCR4
import Derived.Test.YtbdmleibanpfnaaGreatDoorCR5
import Derived.Test.YtbdmleibanpfnaaGreatDoorCR6
import Derived.Test.YtbdmleibanpfnaaGreatDoorCR7
import Derived.Test.YtbdmleibanpfnaaGreatDoorCR8
import Derived.Test.YtbdmleibanpfnaaGreatDoorCR9
import Derived.Test.YtbdmleibanpfnaaGreatDoorCR10
import Derived.Test.YtbdmleibanpfnaaGreatDoorCR11
import Derived.Test.YtbdmleibanpfnaaGreatDoorCR12
import Derived.Test.YtbdmleibanpfnaaGreatDoorCR13
import Derived.Test.YtbdmleibanpfnaaGreatDoorCR14
import Derived.Test.YtbdmleibanpfnaaGreatDoorCR15
import Derived.Test.YtbdmleibanpfnaaGreatDoorCR16
import Derived.Test.YtbdmleibanpfnaaGreatDoorCR17
import Derived.Test.YtbdmleibanpfnaaGreatDoorCR18
import Derived.Test.YtbdmleibanpfnaaGreatDoorCR19
import Derived.Test.YtbdmleibanpfnaaGreatDoorCR20
import Derived.Test.YtbdmleibanpfnaaGreatDoorCR21
import Derived.Test.YtbdmleibanpfnaaGreatDoorCT0
import Derived.Test.YtbdmleibanpfnaaGreatDoorCT1
import Derived.Test.YtbdmleibanpfnaaGreatDoorCT2
set_option linter.all false
set_option linter.all false
set_option maxRecDepth 100000
namespace Go.X1
open Go.Proofs
section
variable [Nu] {W0 : World}
theorem baseD (hW : WOK W0) {dt : List (Nat × Nat)} (h : DtOK dt) : CallOK Tryz.prog W0 (run (fItoaD dt) f198 noF noF noF 100) := run_ok (fun _ _ => c_ItoaD hW (fun i d q => (h i d q).1)) (fun _ hk => a198 hk) (fun _ _ => noF_ans) (fun _ _ => noF_ans) (fun _ _ => noF_ans) 100
theorem text0 (hW : WOK W0) (h1 : Nu.val 1 ≤ 49) : TextOK Tryz.prog W0 198 tx0 := by
  have all : FnOK Tryz.prog 198 ∧ ∀ (α : Al) (w : World) (args : List Value), HR W0 α w tx0.h → RepL α args tx0.a → Calls Tryz.prog 198 ⟨args⟩ w (fun e w' => ∃ u α' h', e = .returned u ∧ Step W0 α w tx0.h α' w' h' ∧ Rep α' u tx0.x) := by
    rcases itB_two (n := Nu.val 1) (by omega) with d1 | d1
    · exact text_ans (p := tx0) (dt := [(1, 1)]) (dt_cons d1 (by omega) dt_nil) (baseD hW (dt_cons d1 (by omega) dt_nil)) (tok := tok0) rfl evT0_1
    · exact text_ans (p := tx0) (dt := [(1, 2)]) (dt_cons d1 (by omega) dt_nil) (baseD hW (dt_cons d1 (by omega) dt_nil)) (tok := tok0) rfl evT0_2
  exact ⟨all.1, by kernel_rfl, by kernel_rfl, ft_of (by kernel_rfl), (by first | exact .inl rfl | exact .inr (by decide)), all.2⟩
theorem text1 (hW : WOK W0) (h1 : Nu.val 1 ≤ 49) : TextOK Tryz.prog W0 198 tx1 := by
  have all : FnOK Tryz.prog 198 ∧ ∀ (α : Al) (w : World) (args : List Value), HR W0 α w tx1.h → RepL α args tx1.a → Calls Tryz.prog 198 ⟨args⟩ w (fun e w' => ∃ u α' h', e = .returned u ∧ Step W0 α w tx1.h α' w' h' ∧ Rep α' u tx1.x) := by
    rcases itB_two (n := Nu.val 1) (by omega) with d1 | d1
    · exact text_ans (p := tx1) (dt := [(1, 1)]) (dt_cons d1 (by omega) dt_nil) (baseD hW (dt_cons d1 (by omega) dt_nil)) (tok := tok1) rfl evT1_1
    · exact text_ans (p := tx1) (dt := [(1, 2)]) (dt_cons d1 (by omega) dt_nil) (baseD hW (dt_cons d1 (by omega) dt_nil)) (tok := tok1) rfl evT1_2
  exact ⟨all.1, by kernel_rfl, by kernel_rfl, ft_of (by kernel_rfl), (by first | exact .inl rfl | exact .inr (by decide)), all.2⟩
theorem text2 (hW : WOK W0) (h1 : Nu.val 1 ≤ 49) : TextOK Tryz.prog W0 198 tx2 := by
  have all : FnOK Tryz.prog 198 ∧ ∀ (α : Al) (w : World) (args : List Value), HR W0 α w tx2.h → RepL α args tx2.a → Calls Tryz.prog 198 ⟨args⟩ w (fun e w' => ∃ u α' h', e = .returned u ∧ Step W0 α w tx2.h α' w' h' ∧ Rep α' u tx2.x) := by
    rcases itB_two (n := Nu.val 1) (by omega) with d1 | d1
    · exact text_ans (p := tx2) (dt := [(1, 1)]) (dt_cons d1 (by omega) dt_nil) (baseD hW (dt_cons d1 (by omega) dt_nil)) (tok := tok2) rfl evT2_1
    · exact text_ans (p := tx2) (dt := [(1, 2)]) (dt_cons d1 (by omega) dt_nil) (baseD hW (dt_cons d1 (by omega) dt_nil)) (tok := tok2) rfl evT2_2
  exact ⟨all.1, by kernel_rfl, by kernel_rfl, ft_of (by kernel_rfl), (by first | exact .inl rfl | exact .inr (by decide)), all.2⟩
theorem text3 (hW : WOK W0) (h1 : Nu.val 1 ≤ 49) : TextOK Tryz.prog W0 198 tx3 := by
  have all : FnOK Tryz.prog 198 ∧ ∀ (α : Al) (w : World) (args : List Value), HR W0 α w tx3.h → RepL α args tx3.a → Calls Tryz.prog 198 ⟨args⟩ w (fun e w' => ∃ u α' h', e = .returned u ∧ Step W0 α w tx3.h α' w' h' ∧ Rep α' u tx3.x) := by
    rcases itB_two (n := Nu.val 1) (by omega) with d1 | d1
    · exact text_ans (p := tx3) (dt := [(1, 1)]) (dt_cons d1 (by omega) dt_nil) (baseD hW (dt_cons d1 (by omega) dt_nil)) (tok := tok3) rfl evT3_1
    · exact text_ans (p := tx3) (dt := [(1, 2)]) (dt_cons d1 (by omega) dt_nil) (baseD hW (dt_cons d1 (by omega) dt_nil)) (tok := tok3) rfl evT3_2
  exact ⟨all.1, by kernel_rfl, by kernel_rfl, ft_of (by kernel_rfl), (by first | exact .inl rfl | exact .inr (by decide)), all.2⟩
end
theorem full_bls [Nu] : ∀ (l : List A) (t : T B) (n m : Nat), Full t n → n + l.length = m → Full (bls l t n) m
  | [], t, n, m, h, e => by subst e; exact h
  | x :: l, t, n, m, h, e => by
    have h1 := (full_set (B.cs (llen x) 0 (tsets x .lf 0)) t n n h (Nat.le_refl _)).1
    rw [Nat.max_eq_right (Nat.le_succ n)] at h1
    exact full_bls l _ _ m h1 (by simp at e; omega)
theorem law {W0 : World} (hW : WOK W0) {v : Value} {bs : List UInt8} (hi : Inp W0 v bs) : Calls Tryz.prog 9 #[v] W0 (fun e w' => e = .returned (.bool true) ∧ Agree W0 w') := by
  letI : Nu := ⟨atV bs 2 % 50, 0, 0, v⟩
  have hI : ∀ k, CallOK Tryz.prog W0 k → FnAns Tryz.prog W0 46 (fItoa k) := fun _ _ => c_Itoa hW
  by_cases hn : bs.length ≤ 1048576
  · have hB : ∃ cs el fz, W0.heap[1]? = some (.cells cs el fz) := let ⟨_, _, h⟩ := hW.pow; ⟨_, _, _, h⟩
    have e1 : Nu.val 1 = atV bs 2 % 50 := by show 1 % 10 * (atV bs 2 % 50) + 1 / 10 % 10 * 0 + 1 / 100 % 10 * 0 + 1 / 1000 = _; omega
    have b1 : Nu.val 1 ≤ 49 := by omega
    have hT : ∀ k, CallOK Tryz.prog W0 k → FnAns Tryz.prog W0 198 (fText txL f198 k) := fun _ hk => fText_ans (fun p hp => by
      simp only [txL, List.mem_cons, List.not_mem_nil, or_false] at hp
      rcases hp with rfl | rfl | rfl | rfl
      · exact text0 hW b1
      · exact text1 hW b1
      · exact text2 hW b1
      · exact text3 hW b1) (a198 hk)
    have cW : CallOK Tryz.prog W0 g0 := run_ok hI (fun _ _ => noF_ans) (fun _ _ => noF_ans) (fun _ _ => noF_ans) (fun _ hk => a12 hk) 100
    have W := kw_of (p := pw) cW evle evf evw
    have cR : CallOK Tryz.prog W0 gY := run_ok hI hT (fun _ _ => noF_ans) (fun _ hk => a23 hk) (fun _ _ => fW_ans W noF_ans) 100
    have top : ∀ (i j : Nat) (z : Known) (r : List Nat), atV bs 0 % 6 = i → atV bs 1 % 10 = j → z.x ≠ .nl → Full z.h.tr z.h.nx → isRes z.x (oCallP gY 23 z.a z.h fun v h => ret1 v h) = true → isRes (kn i j z.x).x (oCallP gY 23 (kn i j z.x).a (kn i j z.x).h fun v h => ret1 v h) = true → isT (run fItoa f198 (fAt (atC i j)) (rn i j z r) noF 100 9 inp0 hE) = true → Calls Tryz.prog 9 #[v] W0 (fun e w' => e = .returned (.bool true) ∧ Agree W0 w') := fun i j z r hi0 hj0 hx hf ez ey et => by
      have hA : ∀ k, CallOK Tryz.prog W0 k → FnAns Tryz.prog W0 16 (fAt (atC i j) k) := fun _ _ => fAt_ans ⟨_, Tryz.func16, by kernel_rfl, by kernel_rfl⟩ fun q x hm => by
        simp only [atC, List.mem_cons, Prod.mk.injEq, List.not_mem_nil, or_false] at hm
        rcases hm with ⟨rfl, rfl⟩ | ⟨rfl, rfl⟩ | ⟨rfl, rfl⟩
        · exact ⟨atV bs 0, fun α => .ref (.rst hi0), fun w A => at_run hi hn hB (by decide) w A⟩
        · exact ⟨atV bs 1, fun α => .ref (.rst hj0), fun w A => at_run hi hn hB (by decide) w A⟩
        · exact ⟨atV bs 2, fun α => .ref (.raw (by rw [e1])), fun w A => at_run hi hn hB (by decide) w A⟩
      have cL : CallOK Tryz.prog W0 (run fItoa f198 (fAt (atC i j)) (rn i j z r) noF 100) := run_ok hI (fun _ hk => a198 hk) hA (fun _ _ => fRen_ans (known_of cR hx ez) hf (fRun_ans (fun p hp => by
        obtain rfl := List.mem_singleton.1 hp
        exact known_of cR hx ey) noF_ans)) (fun _ _ => noF_ans) 100
      exact (law_in cL hi (.inl ⟨rfl, hn⟩) et).2
    have h6 : atV bs 0 % 6 = 0 ∨ atV bs 0 % 6 = 1 ∨ atV bs 0 % 6 = 2 ∨ atV bs 0 % 6 = 3 ∨ atV bs 0 % 6 = 4 ∨ atV bs 0 % 6 = 5 := by omega
    have h10 : atV bs 1 % 10 = 0 ∨ atV bs 1 % 10 = 1 ∨ atV bs 1 % 10 = 2 ∨ atV bs 1 % 10 = 3 ∨ atV bs 1 % 10 = 4 ∨ atV bs 1 % 10 = 5 ∨ atV bs 1 % 10 = 6 ∨ atV bs 1 % 10 = 7 ∨ atV bs 1 % 10 = 8 ∨ atV bs 1 % 10 = 9 := by omega
    rcases h6 with p | p | p | p | p | p
    · have f : Full zp0.h.tr zp0.h.nx := full_bls bl0 .lf 0 _ rfl rfl
      rcases h10 with q | q | q | q | q | q | q | q | q | q
      · exact top 0 0 zp0 rho0 p q (by simp [zp0, x0]) f evz0 evy0_0 evl0_0
      · exact top 0 1 zp0 rho0 p q (by simp [zp0, x0]) f evz0 evy0_1 evl0_1
      · exact top 0 2 zp0 rho0 p q (by simp [zp0, x0]) f evz0 evy0_2 evl0_2
      · exact top 0 3 zp0 rho0 p q (by simp [zp0, x0]) f evz0 evy0_3 evl0_3
      · exact top 0 4 zp0 rho0 p q (by simp [zp0, x0]) f evz0 evy0_4 evl0_4
      · exact top 0 5 zp0 rho0 p q (by simp [zp0, x0]) f evz0 evy0_5 evl0_5
      · exact top 0 6 zp0 rho0 p q (by simp [zp0, x0]) f evz0 evy0_6 evl0_6
      · exact top 0 7 zp0 rho0 p q (by simp [zp0, x0]) f evz0 evy0_7 evl0_7
      · exact top 0 8 zp0 rho0 p q (by simp [zp0, x0]) f evz0 evy0_8 evl0_8
      · exact top 0 9 zp0 rho0 p q (by simp [zp0, x0]) f evz0 evy0_9 evl0_9
    · have f : Full zp1.h.tr zp1.h.nx := full_bls bl1 .lf 0 _ rfl rfl
      rcases h10 with q | q | q | q | q | q | q | q | q | q
      · exact top 1 0 zp1 rho1 p q (by simp [zp1, x1]) f evz1 evy1_0 evl1_0
      · exact top 1 1 zp1 rho1 p q (by simp [zp1, x1]) f evz1 evy1_1 evl1_1
      · exact top 1 2 zp1 rho1 p q (by simp [zp1, x1]) f evz1 evy1_2 evl1_2
      · exact top 1 3 zp1 rho1 p q (by simp [zp1, x1]) f evz1 evy1_3 evl1_3
      · exact top 1 4 zp1 rho1 p q (by simp [zp1, x1]) f evz1 evy1_4 evl1_4
      · exact top 1 5 zp1 rho1 p q (by simp [zp1, x1]) f evz1 evy1_5 evl1_5
      · exact top 1 6 zp1 rho1 p q (by simp [zp1, x1]) f evz1 evy1_6 evl1_6
      · exact top 1 7 zp1 rho1 p q (by simp [zp1, x1]) f evz1 evy1_7 evl1_7
      · exact top 1 8 zp1 rho1 p q (by simp [zp1, x1]) f evz1 evy1_8 evl1_8
      · exact top 1 9 zp1 rho1 p q (by simp [zp1, x1]) f evz1 evy1_9 evl1_9
    · have f : Full zp2.h.tr zp2.h.nx := full_bls bl2 .lf 0 _ rfl rfl
      rcases h10 with q | q | q | q | q | q | q | q | q | q
      · exact top 2 0 zp2 rho2 p q (by simp [zp2, x2]) f evz2 evy2_0 evl2_0
      · exact top 2 1 zp2 rho2 p q (by simp [zp2, x2]) f evz2 evy2_1 evl2_1
      · exact top 2 2 zp2 rho2 p q (by simp [zp2, x2]) f evz2 evy2_2 evl2_2
      · exact top 2 3 zp2 rho2 p q (by simp [zp2, x2]) f evz2 evy2_3 evl2_3
      · exact top 2 4 zp2 rho2 p q (by simp [zp2, x2]) f evz2 evy2_4 evl2_4
      · exact top 2 5 zp2 rho2 p q (by simp [zp2, x2]) f evz2 evy2_5 evl2_5
      · exact top 2 6 zp2 rho2 p q (by simp [zp2, x2]) f evz2 evy2_6 evl2_6
      · exact top 2 7 zp2 rho2 p q (by simp [zp2, x2]) f evz2 evy2_7 evl2_7
      · exact top 2 8 zp2 rho2 p q (by simp [zp2, x2]) f evz2 evy2_8 evl2_8
      · exact top 2 9 zp2 rho2 p q (by simp [zp2, x2]) f evz2 evy2_9 evl2_9
    · have f : Full zp3.h.tr zp3.h.nx := full_bls bl3 .lf 0 _ rfl rfl
      rcases h10 with q | q | q | q | q | q | q | q | q | q
      · exact top 3 0 zp3 rho3 p q (by simp [zp3, x3]) f evz3 evy3_0 evl3_0
      · exact top 3 1 zp3 rho3 p q (by simp [zp3, x3]) f evz3 evy3_1 evl3_1
      · exact top 3 2 zp3 rho3 p q (by simp [zp3, x3]) f evz3 evy3_2 evl3_2
      · exact top 3 3 zp3 rho3 p q (by simp [zp3, x3]) f evz3 evy3_3 evl3_3
      · exact top 3 4 zp3 rho3 p q (by simp [zp3, x3]) f evz3 evy3_4 evl3_4
      · exact top 3 5 zp3 rho3 p q (by simp [zp3, x3]) f evz3 evy3_5 evl3_5
      · exact top 3 6 zp3 rho3 p q (by simp [zp3, x3]) f evz3 evy3_6 evl3_6
      · exact top 3 7 zp3 rho3 p q (by simp [zp3, x3]) f evz3 evy3_7 evl3_7
      · exact top 3 8 zp3 rho3 p q (by simp [zp3, x3]) f evz3 evy3_8 evl3_8
      · exact top 3 9 zp3 rho3 p q (by simp [zp3, x3]) f evz3 evy3_9 evl3_9
    · have f : Full zp4.h.tr zp4.h.nx := full_bls bl4 .lf 0 _ rfl rfl
      rcases h10 with q | q | q | q | q | q | q | q | q | q
      · exact top 4 0 zp4 rho4 p q (by simp [zp4, x4]) f evz4 evy4_0 evl4_0
      · exact top 4 1 zp4 rho4 p q (by simp [zp4, x4]) f evz4 evy4_1 evl4_1
      · exact top 4 2 zp4 rho4 p q (by simp [zp4, x4]) f evz4 evy4_2 evl4_2
      · exact top 4 3 zp4 rho4 p q (by simp [zp4, x4]) f evz4 evy4_3 evl4_3
      · exact top 4 4 zp4 rho4 p q (by simp [zp4, x4]) f evz4 evy4_4 evl4_4
      · exact top 4 5 zp4 rho4 p q (by simp [zp4, x4]) f evz4 evy4_5 evl4_5
      · exact top 4 6 zp4 rho4 p q (by simp [zp4, x4]) f evz4 evy4_6 evl4_6
      · exact top 4 7 zp4 rho4 p q (by simp [zp4, x4]) f evz4 evy4_7 evl4_7
      · exact top 4 8 zp4 rho4 p q (by simp [zp4, x4]) f evz4 evy4_8 evl4_8
      · exact top 4 9 zp4 rho4 p q (by simp [zp4, x4]) f evz4 evy4_9 evl4_9
    · have f : Full zp5.h.tr zp5.h.nx := full_bls bl5 .lf 0 _ rfl rfl
      rcases h10 with q | q | q | q | q | q | q | q | q | q
      · exact top 5 0 zp5 rho5 p q (by simp [zp5, x5]) f evz5 evy5_0 evl5_0
      · exact top 5 1 zp5 rho5 p q (by simp [zp5, x5]) f evz5 evy5_1 evl5_1
      · exact top 5 2 zp5 rho5 p q (by simp [zp5, x5]) f evz5 evy5_2 evl5_2
      · exact top 5 3 zp5 rho5 p q (by simp [zp5, x5]) f evz5 evy5_3 evl5_3
      · exact top 5 4 zp5 rho5 p q (by simp [zp5, x5]) f evz5 evy5_4 evl5_4
      · exact top 5 5 zp5 rho5 p q (by simp [zp5, x5]) f evz5 evy5_5 evl5_5
      · exact top 5 6 zp5 rho5 p q (by simp [zp5, x5]) f evz5 evy5_6 evl5_6
      · exact top 5 7 zp5 rho5 p q (by simp [zp5, x5]) f evz5 evy5_7 evl5_7
      · exact top 5 8 zp5 rho5 p q (by simp [zp5, x5]) f evz5 evy5_8 evl5_8
      · exact top 5 9 zp5 rho5 p q (by simp [zp5, x5]) f evz5 evy5_9 evl5_9
  · have cB : CallOK Tryz.prog W0 (run fItoa f198 noF noF noF 100) := run_ok hI (fun _ hk => a198 hk) (fun _ _ => noF_ans) (fun _ _ => noF_ans) (fun _ _ => noF_ans) 100
    exact (law_in cB hi (.inr ⟨rfl, by omega⟩) evB).2
end Go.X1
