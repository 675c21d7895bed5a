/-
  Plain: numbers and values as texts.
-/
import Derived.Test.YtiecdekmiabmkaaDoorPsV
import Derived.Test.YtiecdekmiabmkaaDoorGpH
set_option linter.unusedVariables false
set_option linter.unusedSimpArgs false
namespace Go.Abs
open Go.Lib (decDigits itoa nDigits)

/-! ### Numbers -/
theorem nDig_le : ∀ (k u : Nat), u < 10 ^ (k + 1) → nDigits u ≤ k + 1
  | 0, u, h => by rw [Go.Lib.nDigits_small (by simpa using h)]; omega
  | k + 1, u, h => by
    by_cases hu : u < 10
    · rw [Go.Lib.nDigits_small hu]; omega
    · rw [Go.Lib.nDigits_big hu]
      have := nDig_le k (u / 10) (by rw [Nat.pow_succ] at h; omega)
      omega
theorem dec_len (u : Nat) (h : u ≤ 999999999) : (decDigits u).length ≤ 9 := by
  rw [Go.Lib.decDigits_eq, List.length_map, List.length_range]
  exact nDig_le 8 u (by show u < 10 ^ 9; omega)
theorem dec_small {u : Nat} (h : u < 10) : decDigits u = [UInt8.ofNat (48 + u)] := by rw [decDigits, dif_pos h]
theorem dec_big {u : Nat} (h : ¬ u < 10) : decDigits u = decDigits (u / 10) ++ [UInt8.ofNat (48 + u % 10)] := by rw [decDigits, dif_neg h]
theorem s_FormatNumber_eq (n : Int) (h : -999999999 ≤ n ∧ n ≤ 999999999) : s_FormatNumber n = some (itoa n) := by
  unfold s_FormatNumber
  by_cases h0 : n = 0
  · rw [if_pos h0, h0]
    unfold itoa
    rw [if_neg (by omega), show (0 : Int).toNat = 0 from rfl, dec_small (by omega)]
    rfl
  rw [if_neg h0]
  have hT := dec_len n.natAbs (by omega)
  have key := itr_exLF (L := s_FormatNumber_L1 n) (fun r => r = itoa n) (fun v => ((v.2 = 0 ∧ v.1 = decDigits n.natAbs) ∨ (v.2 ≠ 0 ∧ decDigits v.2.natAbs ++ v.1 = decDigits n.natAbs)) ∧ ((0 ≤ n ∧ 0 ≤ v.2 ∧ v.2 ≤ n) ∨ (n < 0 ∧ v.2 ≤ 0 ∧ n ≤ v.2))) (fun v => v.2.natAbs) (fun go v hv hgo => ?_) ([], n) ⟨.inr ⟨h0, by simp⟩, by show (0 ≤ n ∧ 0 ≤ n ∧ n ≤ n) ∨ (n < 0 ∧ n ≤ 0 ∧ n ≤ n); omega⟩ (by show n.natAbs < _; omega)
  · obtain ⟨r, h1, h2⟩ := key; rw [h1, h2]
  · obtain ⟨out, x⟩ := v
    obtain ⟨h1, h2⟩ := hv
    simp only at h1 h2
    show ∃ r, s_FormatNumber_L1b n go out x = some r ∧ _
    unfold s_FormatNumber_L1b
    by_cases hx : x = 0
    · have ho : out = decDigits n.natAbs := by
        rcases h1 with h1 | h1
        · exact h1.2
        · exact absurd hx h1.1
      rw [if_pos hx]
      by_cases hn : n < 0
      · rw [if_pos hn, chk_t (by rw [ho]; simp; omega)]
        refine ⟨_, rfl, ?_⟩
        unfold itoa
        rw [if_pos hn, ho]; rfl
      · rw [if_neg hn]
        refine ⟨_, rfl, ?_⟩
        unfold itoa
        rw [if_neg hn, ho, show n.natAbs = n.toNat by omega]
    · have ho : decDigits x.natAbs ++ out = decDigits n.natAbs := by
        rcases h1 with h1 | h1
        · exact absurd h1.1 hx
        · exact h1.2
      have hol : out.length ≤ 9 := by
        have := congrArg List.length ho
        rw [List.length_append] at this; omega
      have hx2 : -999999999 ≤ x ∧ x ≤ 999999999 := by omega
      -- the last figure, and the rest
      obtain ⟨dg, q, e1, e2, e3, e4⟩ : ∃ dg q : Int, (Int.tmod x 10 = dg ∨ Int.tmod x 10 = -dg) ∧ dg = ((x.natAbs % 10 : Nat) : Int) ∧ Int.tdiv x 10 = q ∧ (q.natAbs = x.natAbs / 10 ∧ ((0 ≤ n ∧ 0 ≤ q ∧ q ≤ n ∧ Int.tmod x 10 = dg) ∨ (n < 0 ∧ q ≤ 0 ∧ n ≤ q ∧ Int.tmod x 10 = -dg))) := by
        rcases h2 with ⟨a1, a2, a3⟩ | ⟨a1, a2, a3⟩
        · refine ⟨x % 10, x / 10, .inl (Int.tmod_eq_emod_of_nonneg a2), by omega, Int.tdiv_eq_ediv_of_nonneg a2, by omega, .inl ⟨a1, by omega, by omega, Int.tmod_eq_emod_of_nonneg a2⟩⟩
        · have t1 : Int.tmod x 10 = -((-x) % 10) := by rw [← Int.tmod_eq_emod_of_nonneg (by omega : 0 ≤ -x), Int.neg_tmod, Int.neg_neg]
          have t2 : Int.tdiv x 10 = -((-x) / 10) := by rw [← Int.tdiv_eq_ediv_of_nonneg (by omega : 0 ≤ -x), Int.neg_tdiv, Int.neg_neg]
          exact ⟨(-x) % 10, -((-x) / 10), .inr t1, by omega, t2, by omega, .inr ⟨a1, by omega, by omega, t1⟩⟩
      have hd : 0 ≤ dg ∧ dg ≤ 9 := by omega
      have hJ : ∃ r, s_FormatNumber_J2 out x go dg = some r ∧ r = itoa n := by
        unfold s_FormatNumber_J2
        rw [chk_t (show -9223372036854775808 ≤ 48 + dg ∧ 48 + dg ≤ 9223372036854775807 by omega), chk_t (by omega), chk_t (by simp; omega), chk_t (show (-9223372036854775808 ≤ x ∧ x ≤ 9223372036854775807) ∧ (0 : Int) < 10 by omega), e3]
        refine hgo (_, q) ⟨?_, by show (0 ≤ n ∧ 0 ≤ q ∧ q ≤ n) ∨ (n < 0 ∧ q ≤ 0 ∧ n ≤ q); omega⟩ (by show q.natAbs < x.natAbs; omega)
        show (q = 0 ∧ _) ∨ (q ≠ 0 ∧ _)
        have hdn : (48 + dg).toNat = 48 + x.natAbs % 10 := by omega
        rw [hdn]
        by_cases hs : x.natAbs < 10
        · refine .inl ⟨by omega, ?_⟩
          rw [← ho, dec_small hs, Nat.mod_eq_of_lt hs]
        · refine .inr ⟨by omega, ?_⟩
          rw [← ho, dec_big hs, e4.1, List.append_assoc]
      rw [if_neg hx, chk_t (show (-9223372036854775808 ≤ x ∧ x ≤ 9223372036854775807) ∧ (0 : Int) < 10 by omega)]
      by_cases hneg : Int.tmod x 10 < 0
      · have e : -(Int.tmod x 10) = dg := by omega
        rw [if_pos hneg, e, chk_t (show -9223372036854775808 ≤ dg ∧ dg ≤ 9223372036854775807 by omega)]
        exact hJ
      · have e : Int.tmod x 10 = dg := by omega
        rw [if_neg hneg, e]
        exact hJ
theorem i_FormatNumber_eq (n : Int) (h : -999999999 ≤ n ∧ n ≤ 999999999) : i_FormatNumber n = some (itoa n) := by
  unfold i_FormatNumber x_Itoa
  rw [chk_t (show -9223372036854775808 ≤ n ∧ n ≤ 9223372036854775807 by omega)]; rfl
theorem itoa_len (n : Int) (h : -999999999 ≤ n ∧ n ≤ 999999999) : (itoa n).length ≤ 10 := by
  unfold itoa
  split
  · have := dec_len n.natAbs (by omega); simp; omega
  · have := dec_len n.toNat (by omega); omega

/-! ### Two loops side by side -/
theorem itr_sim {α β ρ σ : Type} {L1 : (α → Option ρ) → α → Option ρ} {L2 : (β → Option σ) → β → Option σ} (R : ρ → σ → Prop) (I : α ⊕ ρ → β → Prop) (m : α ⊕ ρ → β → Nat)
    (step1 : ∀ go1 go2 a b, I (.inl a) b → (∀ x b', I x b' → m x b' < m (.inl a) b → ∃ r s, x.elim go1 some = some r ∧ go2 b' = some s ∧ R r s) → ∃ r s, L1 go1 a = some r ∧ L2 go2 b = some s ∧ R r s)
    (step2 : ∀ go2 r b, I (.inr r) b → (∀ b', I (.inr r) b' → m (.inr r) b' < m (.inr r) b → ∃ s, go2 b' = some s ∧ R r s) → ∃ s, L2 go2 b = some s ∧ R r s) :
    ∀ (N k1 k2 : Nat) x b, m x b ≤ N → I x b → m x b < k1 → m x b < k2 → ∃ r s, x.elim (itr L1 k1) some = some r ∧ itr L2 k2 b = some s ∧ R r s := by
  intro N
  induction N with
  | zero =>
    intro k1 k2 x b hN hI h1 h2
    cases k1 with
    | zero => omega
    | succ k1 =>
    cases k2 with
    | zero => omega
    | succ k2 =>
    cases x with
    | inl a => exact step1 (itr L1 k1) (itr L2 k2) a b hI (fun x b' _ hlt => by omega)
    | inr r =>
      obtain ⟨s, e1, e2⟩ := step2 (itr L2 k2) r b hI (fun b' _ hlt => by omega)
      exact ⟨r, s, rfl, e1, e2⟩
  | succ N ih =>
    intro k1 k2 x b hN hI h1 h2
    cases k1 with
    | zero => omega
    | succ k1 =>
    cases k2 with
    | zero => omega
    | succ k2 =>
    cases x with
    | inl a => exact step1 (itr L1 k1) (itr L2 k2) a b hI (fun x b' hI' hlt => ih k1 k2 x b' (by omega) hI' (by omega) (by omega))
    | inr r =>
      obtain ⟨s, e1, e2⟩ := step2 (itr L2 k2) r b hI (fun b' hI' hlt => by
        obtain ⟨r', s, g1, g2, g3⟩ := ih (k1 + 1) k2 (.inr r) b' (by omega) hI' (by omega) (by omega)
        have : r = r' := Option.some.inj g1
        subst this
        exact ⟨s, g2, g3⟩)
      exact ⟨r, s, rfl, e1, e2⟩

/-! ### Values -/
def OKv (m : Nat) (v : PVal) : Prop := (v.kind = 2 → v.number = 0 ∨ v.number = 1) ∧ (v.kind = 3 → -999999999 ≤ v.number ∧ v.number ≤ 999999999) ∧ (v.kind = 7 → 0 ≤ v.number ∧ v.number < m) ∧ v.text.length ≤ 1048576
theorem okv_isVal {n : Int} {m : Nat} {v : PVal} (hn : n ≤ m) (h : isVal n v = true) (ht : v.text.length ≤ 1048576) : OKv m v := by
  unfold isVal inside at h
  refine ⟨fun e => ?_, fun e => ?_, fun e => ?_, ht⟩
  · rw [if_neg (by omega), if_pos e] at h
    simp at h; omega
  · rw [if_neg (by omega), if_neg (by omega), if_pos e] at h
    simp at h; omega
  · rw [if_neg (by omega), if_neg (by omega), if_neg (by omega), if_neg (by omega), if_neg (by omega), if_neg (by omega), if_pos e] at h
    simp at h; omega
theorem okv_pairs {m : Nat} : ∀ {ps : List PPair} {i : Int}, arePairsFrom i ps = true → 0 ≤ i → i + ps.length ≤ m → (∀ p ∈ ps, p.h.small ∧ p.t.small) → ∀ p ∈ ps, OKv m p.h ∧ OKv m p.t
  | p :: r, i, h, h0, hm, hs, x, hx => by
    simp only [arePairsFrom, Bool.and_eq_true] at h
    simp only [List.length_cons, Int.natCast_add] at hm
    rcases List.mem_cons.1 hx with rfl | hx
    · have := hs x (by simp)
      exact ⟨okv_isVal (by omega) h.1.1 this.1, okv_isVal (by omega) h.1.2 this.2⟩
    · exact okv_pairs (i := i + 1) h.2 (by omega) (by omega) (fun p hp => hs p (by simp [hp])) x hx

def Sim (a b : List UInt8) : Prop := (a = b ∧ a.length < 120) ∨ (120 ≤ a.length ∧ 120 ≤ b.length ∧ a.take 120 = b.take 120)
theorem Sim.same (a : List UInt8) : Sim a a := by
  by_cases h : a.length < 120
  · exact .inl ⟨rfl, h⟩
  · exact .inr ⟨by omega, by omega, rfl⟩
theorem take_app {a t : List UInt8} (h : 120 ≤ a.length) : (a ++ t).take 120 = a.take 120 := by
  rw [List.take_append_of_le_length h]
theorem Sim.app {a b : List UInt8} (h : Sim a b) (t : List UInt8) : Sim (a ++ t) (b ++ t) := by
  rcases h with ⟨rfl, h⟩ | ⟨h1, h2, h3⟩
  · exact Sim.same _
  · exact .inr ⟨by simp; omega, by simp; omega, by rw [take_app h1, take_app h2, h3]⟩
def Bd (l : Nat) : Nat := 2000000 + 8 * (130 - l)

section
variable {ps : List PPair} {v : PVal}
theorem i_ge (n : Nat) {out : List UInt8} (h : 120 ≤ out.length) : i_writeValue (n + 1) out v ps = some out := by
  show i_writeValue_b _ out v ps = _
  unfold i_writeValue_b
  rw [if_pos (by omega)]
theorem s_over (n : Nat) {out : List UInt8} (h : 120 < out.length) : s_l8Print (n + 1) v ps out = some out := by
  show s_l8Print_b _ v ps out = _
  unfold s_l8Print_b
  rw [if_pos (by omega)]
theorem atom (hv : OKv ps.length v) (h7 : v.kind ≠ 7) : ∃ t : List UInt8, t.length ≤ 1048600 ∧ (∀ n out, out.length < 120 → i_writeValue (n + 1) out v ps = some (out ++ t)) ∧ ∀ n out, out.length ≤ 120 → s_l8Print (n + 1) v ps out = some (out ++ t) := by
  obtain ⟨h2, h3, _, h4⟩ := hv
  have go : ∀ (t : List UInt8), t.length ≤ 1048600 → (∀ n (out : List UInt8), out.length < 120 → i_writeValue_b (i_writeValue n) out v ps = some (out ++ t)) → (∀ n (out : List UInt8), out.length ≤ 120 → s_l8Print_b (s_l8Print n) v ps out = some (out ++ t)) → ∃ t : List UInt8, t.length ≤ 1048600 ∧ (∀ n out, out.length < 120 → i_writeValue (n + 1) out v ps = some (out ++ t)) ∧ ∀ n out, out.length ≤ 120 → s_l8Print (n + 1) v ps out = some (out ++ t) := fun t a b c => ⟨t, a, b, c⟩
  by_cases k0 : v.kind = 0
  · refine go [35, 118, 111, 105, 100] (by simp) (fun n out ho => ?_) (fun n out ho => ?_)
    · unfold i_writeValue_b; rw [if_neg (by omega), if_pos k0, chk_t (by simp; omega)]
    · unfold s_l8Print_b; rw [if_neg (by omega), if_pos k0, chk_t (by simp; omega)]
  by_cases k1 : v.kind = 1
  · refine go [40, 41] (by simp) (fun n out ho => ?_) (fun n out ho => ?_)
    · unfold i_writeValue_b; rw [if_neg (by omega), if_neg k0, if_pos k1, chk_t (by simp; omega)]
    · unfold s_l8Print_b; rw [if_neg (by omega), if_neg k0, if_pos k1, chk_t (by simp; omega)]
  by_cases k2 : v.kind = 2
  · rcases h2 k2 with e | e
    · refine go [35, 102] (by simp) (fun n out ho => ?_) (fun n out ho => ?_)
      · unfold i_writeValue_b; rw [if_neg (by omega), if_neg k0, if_neg k1, if_pos k2, if_neg (by omega), chk_t (by simp; omega)]
      · unfold s_l8Print_b; rw [if_neg (by omega), if_neg k0, if_neg k1, if_pos k2, e, show nth ([[35, 102], [35, 116]] : List (List UInt8)) 0 = some [35, 102] from rfl, bnd_eq, chk_t (by simp; omega)]
    · refine go [35, 116] (by simp) (fun n out ho => ?_) (fun n out ho => ?_)
      · unfold i_writeValue_b; rw [if_neg (by omega), if_neg k0, if_neg k1, if_pos k2, if_pos e, chk_t (by simp; omega)]
      · unfold s_l8Print_b; rw [if_neg (by omega), if_neg k0, if_neg k1, if_pos k2, e, show nth ([[35, 102], [35, 116]] : List (List UInt8)) 1 = some [35, 116] from rfl, bnd_eq, chk_t (by simp; omega)]
  by_cases k3 : v.kind = 3
  · have hl := itoa_len _ (h3 k3)
    refine go (itoa v.number) (by omega) (fun n out ho => ?_) (fun n out ho => ?_)
    · unfold i_writeValue_b; rw [if_neg (by omega), if_neg k0, if_neg k1, if_neg k2, if_pos k3, i_FormatNumber_eq _ (h3 k3), bnd_eq, chk_t (by omega)]
    · unfold s_l8Print_b; rw [if_neg (by omega), if_neg k0, if_neg k1, if_neg k2, if_pos k3, s_FormatNumber_eq _ (h3 k3), bnd_eq, chk_t (by omega)]
  by_cases k4 : v.kind = 4
  · refine go v.text (by omega) (fun n out ho => ?_) (fun n out ho => ?_)
    · unfold i_writeValue_b; rw [if_neg (by omega), if_neg k0, if_neg k1, if_neg k2, if_neg k3, if_pos k4, chk_t (by omega)]
    · unfold s_l8Print_b; rw [if_neg (by omega), if_neg k0, if_neg k1, if_neg k2, if_neg k3, if_pos k4, chk_t (by omega)]
  by_cases k5 : v.kind = 5
  · refine go ([34] ++ v.text ++ [34]) (by simp; omega) (fun n out ho => ?_) (fun n out ho => ?_)
    · unfold i_writeValue_b; rw [if_neg (by omega), if_neg k0, if_neg k1, if_neg k2, if_neg k3, if_neg k4, if_pos k5, chk_t (by simp; omega), chk_t (by simp; omega), chk_t (by simp; omega)]; simp
    · unfold s_l8Print_b; rw [if_neg (by omega), if_neg k0, if_neg k1, if_neg k2, if_neg k3, if_neg k4, if_pos k5, chk_t (by simp; omega), chk_t (by simp; omega), chk_t (by simp; omega)]; simp
  · refine go [35, 112, 114, 111, 99, 101, 100, 117, 114, 101] (by simp) (fun n out ho => ?_) (fun n out ho => ?_)
    · unfold i_writeValue_b; rw [if_neg (by omega), if_neg k0, if_neg k1, if_neg k2, if_neg k3, if_neg k4, if_neg k5, if_neg h7, chk_t (by simp; omega)]
    · unfold s_l8Print_b; rw [if_neg (by omega), if_neg k0, if_neg k1, if_neg k2, if_neg k3, if_neg k4, if_neg k5, if_neg h7, chk_t (by simp; omega)]

/-- How the reference ends a list, behind its last item. -/
def endS (n : Nat) (ps : List PPair) (out : List UInt8) (v : PVal) : Option (List UInt8) :=
  if v.kind = 1 then s_l8Print_J4 (s_l8Print n) ps out v false else s_l8Print_J4 (s_l8Print n) ps out v (decide ((out.length : Int) ≤ 120))
theorem L1_end (n : Nat) (go : List UInt8 × Int × PVal → Option (List UInt8)) (os : List UInt8) (c : Int) (h : v.kind ≠ 7 ∨ 120 < os.length) : s_l8Print_L1b (s_l8Print n) ps go os c v = endS n ps os v := by
  unfold s_l8Print_L1b endS
  by_cases h7 : v.kind = 7
  · rw [if_pos h7]
    unfold s_l8Print_J2
    rw [if_neg (by simp; omega)]
  · rw [if_neg h7]
    unfold s_l8Print_J2
    rw [if_neg (by simp)]
theorem endS_ge (n : Nat) {out : List UInt8} (h : 120 ≤ out.length) (hb : out.length ≤ 1000000000) : ∃ t : List UInt8, endS (n + 1) ps out v = some (out ++ t) ∧ t.length ≤ 4 := by
  unfold endS s_l8Print_J4
  by_cases h1 : v.kind = 1
  · rw [if_pos h1, if_neg (by simp), chk_t (by simp; omega)]
    exact ⟨_, rfl, by simp⟩
  · rw [if_neg h1]
    by_cases h2 : out.length = 120
    · rw [if_pos (by simp; omega), chk_t (by simp; omega), s_over n (by simp; omega), bnd_eq, chk_t (by simp; omega)]
      exact ⟨[32, 46, 32, 41], by simp, by simp⟩
    · rw [if_neg (by simp; omega), chk_t (by simp; omega)]
      exact ⟨_, rfl, by simp⟩
theorem s_ge (n : Nat) (hv : OKv ps.length v) {out : List UInt8} (h : 120 ≤ out.length) : ∃ t : List UInt8, s_l8Print (n + 2) v ps out = some (out ++ t) ∧ t.length ≤ 1048600 := by
  by_cases h2 : 120 < out.length
  · exact ⟨[], by rw [s_over _ h2]; simp, by simp⟩
  by_cases h7 : v.kind = 7
  · show ∃ t : List UInt8, s_l8Print_b (s_l8Print (n + 1)) v ps out = _ ∧ _
    unfold s_l8Print_b
    rw [if_neg (by omega), if_neg (by omega), if_neg (by omega), if_neg (by omega), if_neg (by omega), if_neg (by omega), if_neg (by omega), if_pos h7, chk_t (by simp; omega), LF_eq, show (18446744073709551616 : Nat) = 18446744073709551615 + 1 from rfl, itr]
    show ∃ t, s_l8Print_L1b (s_l8Print (n + 1)) ps _ _ _ _ = _ ∧ _
    rw [L1_end _ _ _ _ (.inr (by simp; omega))]
    obtain ⟨t, e1, e2⟩ := endS_ge (ps := ps) (v := v) n (out := out ++ [40]) (by simp; omega) (by simp; omega)
    exact ⟨[40] ++ t, by rw [e1]; simp, by simp; omega⟩
  · obtain ⟨t, e1, _, e2⟩ := atom hv h7
    exact ⟨t, e2 (n + 1) out (by omega), e1⟩
end
end Go.Abs
