/-
  Plain: values as texts, both ways alike.
-/
import Derived.Test.YtiecdekmiabmkaaDoorPsF
set_option linter.unusedVariables false
set_option linter.unusedSimpArgs false
namespace Go.Abs

section
variable {ps : List PPair}
theorem nth_ok {i : Int} (h : 0 ≤ i ∧ i < ps.length) : ∃ p, nth ps i = some p ∧ p ∈ ps := by
  obtain ⟨j, rfl⟩ := Int.eq_ofNat_of_zero_le h.1
  have hj : j < ps.length := by have := h.2; omega
  exact ⟨ps[j], nth_lt hj, List.getElem_mem hj⟩

/-- One round of the reference's loop, where it goes on. -/
theorem L1_go (n : Nat) (go : List UInt8 × Int × PVal → Option (List UInt8)) (os oi : List UInt8) (c : Int) (v : PVal) (h7 : v.kind = 7) (hl : os.length ≤ 120) (hc : (c = 0 ∧ oi = os) ∨ (0 < c ∧ oi = os ++ [32])) : s_l8Print_L1b (s_l8Print n) ps go os c v = s_l8Print_J3 (s_l8Print n) ps c v go oi := by
  unfold s_l8Print_L1b
  rw [if_pos h7]
  unfold s_l8Print_J2
  rw [if_pos (by simp; omega)]
  rcases hc with ⟨c0, e⟩ | ⟨c0, e⟩
  · rw [if_neg (by omega), e]
  · rw [if_pos c0, chk_t (by simp; omega), e]

/-- The result of a list, both ways, where its last item is known. -/
def endI (n : Nat) (ps : List PPair) (a : List UInt8) (t : PVal) : Option (List UInt8) := i_writeValue_J1 (i_writeValue n) ps a t
theorem endI_ge (n : Nat) {a : List UInt8} {t : PVal} (h : 120 ≤ a.length) (hb : a.length ≤ 1000000000) : ∃ x : List UInt8, endI (n + 1) ps a t = some (a ++ x) ∧ x.length ≤ 4 := by
  unfold endI i_writeValue_J1
  by_cases h1 : t.kind = 1
  · rw [if_pos h1]
    unfold i_writeValue_J2
    rw [if_neg (by simp), chk_t (by simp; omega)]
    exact ⟨_, rfl, by simp⟩
  · rw [if_neg h1]
    unfold i_writeValue_J2
    by_cases h7 : t.kind = 7
    · rw [if_neg (by simp [h7]), chk_t (by simp; omega)]
      exact ⟨_, rfl, by simp⟩
    · rw [if_pos (by simp [h7]), chk_t (by simp; omega), i_ge n (by simp; omega), bnd_eq, chk_t (by simp; omega)]
      exact ⟨[32, 46, 32, 41], by simp, by simp⟩

def RR (l : Nat) (r s : List UInt8) : Prop := Sim r s ∧ r.length ≤ Bd l ∧ s.length ≤ Bd l ∧ l ≤ r.length

theorem print_rel (hps : ∀ p ∈ ps, OKv ps.length p.h ∧ OKv ps.length p.t) : ∀ (n : Nat) (v : PVal) (out : List UInt8), OKv ps.length v → out.length < 120 → 122 ≤ n + out.length → ∃ a b, i_writeValue n out v ps = some a ∧ s_l8Print n v ps out = some b ∧ RR out.length a b
  | 0, v, out, _, h1, h2 => by omega
  | n + 1, v, out, hv, h1, h2 => by
    by_cases h7n : v.kind ≠ 7
    · obtain ⟨t, e1, e2, e3⟩ := atom hv h7n
      exact ⟨_, _, e2 n out h1, e3 n out (by omega), Sim.same _, by simp [Bd]; omega, by simp [Bd]; omega, by simp⟩
    have h7 : v.kind = 7 := Classical.not_not.1 h7n
    obtain ⟨n', rfl⟩ : ∃ n', n = n' + 2 := ⟨n - 2, by omega⟩
    have ih := print_rel hps (n' + 2)
    show ∃ a b, i_writeValue_b (i_writeValue (n' + 2)) out v ps = _ ∧ s_l8Print_b (s_l8Print (n' + 2)) v ps out = _ ∧ _
    unfold i_writeValue_b s_l8Print_b
    rw [if_neg (by omega), if_neg (by omega), if_neg (by omega), if_neg (by omega), if_neg (by omega), if_neg (by omega), if_neg (by omega), if_pos h7, chk_t (by simp; omega)]
    rw [if_neg (by omega), if_neg (by omega), if_neg (by omega), if_neg (by omega), if_neg (by omega), if_neg (by omega), if_neg (by omega), if_pos h7, chk_t (by simp; omega)]
    have hBd : Bd (out.length + 1) + 8 = Bd out.length := by unfold Bd; omega
    have hB0 : 2000000 ≤ Bd out.length := by unfold Bd; omega
    have hB1 : Bd out.length ≤ 3000000 := by unfold Bd; omega
    have hBm : ∀ k, out.length + 1 ≤ k → Bd k + 8 ≤ Bd out.length := fun k hk => by
      have : Bd k ≤ Bd (out.length + 1) := by unfold Bd; omega
      omega
    -- the reference's loop alone
    let I2 : List UInt8 → List UInt8 × Int × PVal → Prop := fun r b =>
      (120 ≤ b.1.length ∧ b.1.length + 8 ≤ Bd out.length ∧ 120 ≤ r.length ∧ r.length ≤ Bd out.length ∧ r.take 120 = b.1.take 120 ∧ OKv ps.length b.2.2 ∧ 0 < b.2.1 ∧ b.2.1 ≤ b.1.length + 1) ∨
      (b.2.2.kind ≠ 7 ∧ ∃ s, endS (n' + 2) ps b.1 b.2.2 = some s ∧ RR out.length r s)
    let I : (List UInt8 × PVal) ⊕ List UInt8 → List UInt8 × Int × PVal → Prop := fun x b => match x with
      | .inl (oi, u) => (u = b.2.2 ∧ u.kind = 7 ∧ OKv ps.length u ∧ 0 ≤ b.2.1 ∧ b.2.1 ≤ oi.length ∧ ((b.2.1 = 0 ∧ oi = b.1) ∨ (0 < b.2.1 ∧ oi = b.1 ++ [32])) ∧ out.length + 1 ≤ oi.length ∧ oi.length ≤ 120) ∨
          (120 ≤ oi.length ∧ oi.length ≤ 1000000000 ∧ u.kind = 7 ∧ I2 (oi ++ [41]) b)
      | .inr r => I2 r b
    let m : (List UInt8 × PVal) ⊕ List UInt8 → List UInt8 × Int × PVal → Nat := fun x b => match x with
      | .inl (oi, _) => (151 - b.1.length) + (200 - oi.length)
      | .inr _ => 150 - b.1.length
    have step2 : ∀ (go2 : List UInt8 × Int × PVal → Option (List UInt8)) r b, I2 r b → (∀ b', I2 r b' → 150 - b'.1.length < 150 - b.1.length → ∃ s, go2 b' = some s ∧ RR out.length r s) → ∃ s, s_l8Print_L1 (s_l8Print (n' + 2)) ps go2 b = some s ∧ RR out.length r s := by
      intro go2 r b hI hgo
      obtain ⟨os, c, u⟩ := b
      show ∃ s, s_l8Print_L1b (s_l8Print (n' + 2)) ps go2 os c u = some s ∧ _
      rcases hI with ⟨g1, g2, g3, g4, g5, g6, g7, g8⟩ | ⟨g1, s, g2, g3⟩
      · simp only at g1 g2 g5 g6 g7 g8
        have fin : ∃ t : List UInt8, endS (n' + 2) ps os u = some (os ++ t) ∧ t.length ≤ 4 := endS_ge (n' + 1) g1 (by omega)
        by_cases hk : u.kind ≠ 7 ∨ 120 < os.length
        · rw [L1_end _ _ _ _ hk]
          obtain ⟨t, e1, e2⟩ := fin
          exact ⟨_, e1, .inr ⟨g3, by simp; omega, by rw [take_app g1, g5]⟩, g4, by simp; omega, by omega⟩
        · have hk7 : u.kind = 7 := Classical.byContradiction fun h => hk (.inl h)
          have hk120 : os.length = 120 := by
            rcases Nat.lt_or_ge 120 os.length with h | h
            · exact absurd (.inr h) hk
            · omega
          rw [L1_go (n' + 2) go2 os (os ++ [32]) c u hk7 (by omega) (.inr ⟨g7, rfl⟩)]
          unfold s_l8Print_J3
          obtain ⟨p, e1, e2⟩ := nth_ok (ps := ps) (i := u.number) (by have := g6.2.2.1 hk7; omega)
          rw [e1, bnd_eq, s_over (n' + 1) (by simp; omega), bnd_eq, bnd_eq, chk_t (show -9223372036854775808 ≤ c + 1 ∧ c + 1 ≤ 9223372036854775807 by omega)]
          refine hgo (_, _, _) (.inl ⟨by simp; omega, by simp; omega, g3, g4, ?_, (hps p e2).2, by show 0 < c + 1; omega, ?_⟩) (by simp; omega)
          · show r.take 120 = (os ++ [32]).take 120
            rw [take_app g1, g5]
          · show c + 1 ≤ ((os ++ [32]).length : Int) + 1
            simp; omega
      · simp only at g1 g2
        rw [L1_end _ _ _ _ (.inl g1)]
        exact ⟨s, g2, g3⟩
    have key := itr_sim (L1 := i_writeValue_L3 (i_writeValue (n' + 2)) ps) (L2 := s_l8Print_L1 (s_l8Print (n' + 2)) ps) (RR out.length) I m ?_ ?_ (m (.inl (out ++ [40], v)) (out ++ [40], 0, v)) LF LF (.inl (out ++ [40], v)) (out ++ [40], 0, v) (Nat.le_refl _) (.inl ⟨rfl, h7, hv, by show (0 : Int) ≤ 0; omega, by show (0 : Int) ≤ _; omega, .inl ⟨rfl, rfl⟩, by simp, by simp; omega⟩) (by rw [LF_eq]; simp [m]; omega) (by rw [LF_eq]; simp [m]; omega)
    · exact key
    · intro go1 go2 a b hI hgo
      obtain ⟨oi, u⟩ := a
      obtain ⟨os, c, u'⟩ := b
      show ∃ r s, i_writeValue_L3b (i_writeValue (n' + 2)) ps go1 oi u = some r ∧ s_l8Print_L1b (s_l8Print (n' + 2)) ps go2 os c u' = some s ∧ _
      rcases hI with ⟨g1, g2, g3, g4, g5, g6, g7, g8⟩ | ⟨g1, g1b, g2, g3⟩
      · simp only at g1 g2 g3 g4 g5 g6 g7 g8
        subst g1
        have hos : os.length ≤ oi.length := by rcases g6 with ⟨_, e⟩ | ⟨_, e⟩ <;> rw [e] <;> simp
        obtain ⟨p, e1, e2⟩ := nth_ok (ps := ps) (i := u.number) (by have := g3.2.2.1 g2; omega)
        rw [L1_go (n' + 2) go2 os oi c u g2 (by omega) g6]
        unfold i_writeValue_L3b s_l8Print_J3
        by_cases hlen : oi.length < 120
        · rw [if_pos (by omega)]
          simp only [e1]
          rw [bnd_eq, bnd_eq]
          obtain ⟨a, b, q1, q2, q3, q4, q5, q6⟩ := ih p.h oi (hps p e2).1 hlen (by omega)
          have hbm := hBm oi.length g7
          rw [q1, bnd_eq, q2, bnd_eq, bnd_eq, chk_t (show -9223372036854775808 ≤ c + 1 ∧ c + 1 ≤ 9223372036854775807 by omega)]
          rcases q3 with ⟨rfl, q3⟩ | ⟨q3, q3b, q3c⟩
          · by_cases hk : p.t.kind = 7
            · rw [if_pos hk, chk_t (by simp; omega)]
              refine hgo (.inl (_, _)) (_, _, _) (.inl ⟨rfl, hk, (hps p e2).2, by show 0 ≤ c + 1; omega, by simp; omega, .inr ⟨by show 0 < c + 1; omega, rfl⟩, by simp; omega, by simp; omega⟩) (by simp [m]; omega)
            · rw [if_neg hk]
              -- the end of both
              have hend : ∃ r s, endI (n' + 2) ps a p.t = some r ∧ endS (n' + 2) ps a p.t = some s ∧ RR out.length r s := by
                unfold endI i_writeValue_J1 endS
                by_cases hk1 : p.t.kind = 1
                · rw [if_pos hk1, if_pos hk1]
                  unfold i_writeValue_J2 s_l8Print_J4
                  rw [if_neg (by simp), if_neg (by simp), chk_t (by simp; omega), chk_t (by simp; omega)]
                  exact ⟨_, _, rfl, rfl, Sim.same _, by simp; omega, by simp; omega, by simp; omega⟩
                · rw [if_neg hk1, if_neg hk1]
                  unfold i_writeValue_J2 s_l8Print_J4
                  rw [if_pos (by simp [hk]), if_pos (by simp; omega), chk_t (by simp; omega), chk_t (by simp; omega)]
                  have hbig : ∃ a2 b2, i_writeValue (n' + 2) (a ++ [32, 46, 32]) p.t ps = some a2 ∧ s_l8Print (n' + 2) p.t ps (a ++ [32, 46, 32]) = some b2 ∧ Sim a2 b2 ∧ a2.length + 8 ≤ Bd out.length ∧ b2.length + 8 ≤ Bd out.length ∧ out.length ≤ a2.length := by
                    by_cases hl2 : (a ++ [32, 46, 32]).length < 120
                    · obtain ⟨a2, b2, z1, z2, z3, z4, z5, z6⟩ := ih p.t (a ++ [32, 46, 32]) (hps p e2).2 hl2 (by simp; omega)
                      have := hBm (a ++ [32, 46, 32]).length (by simp; omega)
                      exact ⟨a2, b2, z1, z2, z3, by omega, by omega, by simp at z6; omega⟩
                    · obtain ⟨t, z1, z2⟩ := s_ge (ps := ps) n' (hps p e2).2 (out := a ++ [32, 46, 32]) (by omega)
                      have hl3 : (a ++ [32, 46, 32]).length = a.length + 3 := by simp
                      refine ⟨_, _, i_ge (n' + 1) (by omega), z1, .inr ⟨by omega, by rw [List.length_append]; omega, (take_app (by omega)).symm⟩, by omega, by rw [List.length_append]; omega, by omega⟩
                  obtain ⟨a2, b2, z1, z2, z3, z4, z5, z6⟩ := hbig
                  rw [z1, bnd_eq, z2, bnd_eq, chk_t (by simp; omega), chk_t (by simp; omega)]
                  exact ⟨_, _, rfl, rfl, z3.app _, by simp; omega, by simp; omega, by simp; omega⟩
              obtain ⟨r, s, z1, z2, z3⟩ := hend
              obtain ⟨r', s', y1, y2, y3⟩ := hgo (.inr r) (a, c + 1, p.t) (.inr ⟨hk, s, z2, z3⟩) (by simp [m]; omega)
              have : r = r' := Option.some.inj y1
              subst this
              exact ⟨r, s', z1, y2, y3⟩
          · by_cases hk : p.t.kind = 7
            · rw [if_pos hk, chk_t (by simp; omega)]
              refine hgo (.inl (_, _)) (_, _, _) (.inr ⟨by simp; omega, by simp; omega, hk, .inl ⟨q3b, by show b.length + 8 ≤ _; omega, by simp; omega, by simp; omega, ?_, (hps p e2).2, by show 0 < c + 1; omega, by show c + 1 ≤ (b.length : Int) + 1; omega⟩⟩) (by simp [m]; omega)
              show ((a ++ [32]) ++ [41]).take 120 = b.take 120
              rw [take_app (by simp; omega), take_app q3, q3c]
            · rw [if_neg hk]
              obtain ⟨x, z1, z2⟩ := endI_ge (ps := ps) (n' + 1) (a := a) (t := p.t) q3 (by omega)
              obtain ⟨r', s', y1, y2, y3⟩ := hgo (.inr (a ++ x)) (b, c + 1, p.t) (.inl ⟨q3b, by show b.length + 8 ≤ _; omega, by simp; omega, by simp; omega, by show (a ++ x).take 120 = b.take 120; rw [take_app q3, q3c], (hps p e2).2, by show 0 < c + 1; omega, by show c + 1 ≤ (b.length : Int) + 1; omega⟩) (by simp [m]; omega)
              have : a ++ x = r' := Option.some.inj y1
              subst this
              exact ⟨_, s', z1, y2, y3⟩
        · have h120 : oi.length = 120 := by omega
          rw [if_neg (by omega)]
          obtain ⟨x, z1, z2⟩ := endI_ge (ps := ps) (n' + 1) (a := oi) (t := u) (by omega) (by omega)
          obtain ⟨t, w1, w2⟩ := s_ge (ps := ps) n' (hps p e2).1 (out := oi) (by omega)
          rw [e1, bnd_eq, w1, bnd_eq, bnd_eq, chk_t (show -9223372036854775808 ≤ c + 1 ∧ c + 1 ≤ 9223372036854775807 by omega)]
          obtain ⟨r', s', y1, y2, y3⟩ := hgo (.inr (oi ++ x)) (oi ++ t, c + 1, p.t) (.inl ⟨by simp; omega, by simp; omega, by simp; omega, by simp; omega, by show (oi ++ x).take 120 = (oi ++ t).take 120; rw [take_app (by omega), take_app (by omega)], (hps p e2).2, by show 0 < c + 1; omega, by show c + 1 ≤ ((oi ++ t).length : Int) + 1; simp; omega⟩) (by simp [m]; omega)
          have : oi ++ x = r' := Option.some.inj y1
          subst this
          exact ⟨_, s', z1, y2, y3⟩
      · have e : i_writeValue_L3b (i_writeValue (n' + 2)) ps go1 oi u = some (oi ++ [41]) := by
          unfold i_writeValue_L3b
          rw [if_neg (by omega)]
          unfold i_writeValue_J1
          rw [if_neg (by omega)]
          unfold i_writeValue_J2
          rw [if_neg (by simp [g2]), chk_t (by simp; omega)]
        obtain ⟨s, y1, y2⟩ := step2 go2 (oi ++ [41]) (os, c, u') g3 (fun b' hb' hlt => by
          have hlt' : 150 - b'.1.length < 150 - os.length := hlt
          obtain ⟨r', s, z1, z2, z3⟩ := hgo (.inr (oi ++ [41])) b' hb' (by show 150 - b'.1.length < (151 - os.length) + (200 - oi.length); omega)
          have : oi ++ [41] = r' := Option.some.inj z1
          subst this
          exact ⟨s, z2, z3⟩)
        exact ⟨_, s, e, y1, y2⟩
    · intro go2 r b hI hgo
      exact step2 go2 r b hI hgo
end

theorem textOf_eq (v : PVal) (ps : List PPair) (hv : OKv ps.length v) (hps : ∀ p ∈ ps, OKv ps.length p.h ∧ OKv ps.length p.t) : ∃ t, i_textOf v ps = some t ∧ s_l8Text v ps = some t := by
  obtain ⟨a, b, e1, e2, h1, h2, h3, _⟩ := print_rel hps RF v [] hv (by simp) (by rw [RF_eq]; simp)
  have hB : Bd ([] : List UInt8).length ≤ 3000000 := by unfold Bd; simp
  unfold i_textOf s_l8Text
  rw [e1, bnd_eq, e2, bnd_eq, chk_t (by omega)]
  rcases h1 with ⟨rfl, h⟩ | ⟨g1, g2, g3⟩
  · rw [if_neg (by omega)]
    refine ⟨_, rfl, ?_⟩
    rw [show (min (a.length : Int) 120).toNat = a.length by omega, List.take_length]
  · rw [show (min (a.length : Int) 120).toNat = 120 by omega]
    by_cases h : (b.length : Int) > 120
    · rw [if_pos h, chk_t (by omega)]
      exact ⟨_, rfl, by rw [g3]; rfl⟩
    · rw [if_neg h]
      exact ⟨_, rfl, by rw [g3, List.take_of_length_le (by omega)]⟩

theorem i_IsValue_eq (v : PVal) (ps : List PPair) (hv : v.small) (hp : pairsSmall ps) : i_IsValue v ps = some (arePairs ps && isVal ps.length v) := by
  unfold i_IsValue
  rw [i_ArePairs_eq ps hp, bnd_eq]
  cases h : arePairs ps
  · simp
  · rw [if_pos rfl, i_isValue_eq v _ (by have : v.text.length ≤ 1048576 := hv; unfold SM; omega), bnd_eq]; simp
theorem s_IsValue_eq (v : PVal) (ps : List PPair) (hv : v.small) (hp : pairsSmall ps) : s_IsValue v ps = some (arePairs ps && isVal ps.length v) := by
  unfold s_IsValue
  rw [s_ArePairs_eq ps hp, bnd_eq]
  cases h : arePairs ps
  · simp
  · rw [if_pos rfl, s_l8Value_eq v _ (by have : v.text.length ≤ 1048576 := hv; unfold SM; omega) (by have := hp.1; omega), bnd_eq]; simp
theorem FormatValue_eq (v : PVal) (ps : List PPair) (hv : v.small) (hp : pairsSmall ps) : ∃ t, i_FormatValue v ps = some t ∧ s_FormatValue v ps = some t := by
  unfold i_FormatValue s_FormatValue
  rw [i_IsValue_eq v ps hv hp, s_IsValue_eq v ps hv hp, bnd_eq, bnd_eq]
  cases h : (arePairs ps && isVal ps.length v)
  · exact ⟨_, rfl, rfl⟩
  · rw [Bool.and_eq_true] at h
    have h1 := h.1
    unfold arePairs at h1
    rw [Bool.and_eq_true] at h1
    obtain ⟨t, e1, e2⟩ := textOf_eq v ps (okv_isVal (by omega) h.2 hv) (okv_pairs h1.2 (by omega) (by omega) hp.2)
    rw [if_pos rfl, if_pos rfl, e1, e2]
    exact ⟨t, rfl, rfl⟩
theorem w_FnExactFormatValue_true (v : PVal) (ps : List PPair) (hv : v.wf) (hp : ps.length ≤ 9223372036854775807 ∧ ∀ p ∈ ps, p.wf) : w_FnExactFormatValue v ps = some true := by
  unfold w_FnExactFormatValue
  rw [szValue_eq v hv _ (by omega) (by omega), bnd_eq]
  by_cases h : szw (wV v) 1048576 < 0
  · rw [if_pos h]
  have f := szw_pos h
  rw [if_neg h, szPairS_eq ps hp _ (by omega) (by omega), bnd_eq]
  by_cases g : szw (wts wP ps) (szw (wV v) 1048576) < 0
  · rw [if_pos g]
  have f2 := szw_pos g
  have hs : v.small := by show v.text.length ≤ 1048576; have : wV v = v.text.length := rfl; omega
  have hps : pairsSmall ps := small_wP (by omega)
  obtain ⟨t, e1, e2⟩ := FormatValue_eq v ps hs hps
  rw [if_neg g]
  have ht : w_toValue v = some v := rfl
  simp only [ht, toPairS_eq ps hps.1, bnd_eq, e1, e2, if_true, eqPairS_refl ps hps.1]
end Go.Abs
