/-
  Calls that are handed rows of the caller's own: the caller's rows 'us' are the callee's rows 0, 1, 2.
-/
import Derived.Test.YtiecdekmiabmkaaAbsQ
set_option linter.unusedVariables false
set_option linter.unusedSimpArgs false
namespace Go.Abs

def dn : List Nat → Nat → Option Nat
  | [], _ => none
  | a :: r, u => match Nat.beq u a with | true => some 0 | false => match dn r u with | some j => some (j + 1) | none => none
theorem dn_get : ∀ {us : List Nat} {u j : Nat}, dn us u = some j → us[j]? = some u
  | [], u, j, h => by simp [dn] at h
  | a :: r, u, j, h => by
    simp only [dn] at h
    split at h
    · rename_i hb
      rw [Nat.beq_eq] at hb
      simp only [Option.some.injEq] at h
      subst h; subst hb; rfl
    · split at h
      · rename_i j' hj
        simp only [Option.some.injEq] at h
        subst h
        simpa using dn_get hj
      · simp at h
def distinct : List Nat → Bool
  | [] => true
  | a :: r => !memb a r && distinct r
theorem memb_false : ∀ {l : List Nat} {a : Nat}, memb a l = false → ∀ j : Nat, l[j]? ≠ some a
  | [], a, _, j => by simp
  | b :: r, a, h, j => by
    simp only [memb, Bool.cond_eq_ite] at h
    split at h
    · simp at h
    · rename_i hb
      cases j with
      | zero => intro e; simp at e; exact hb (by simp [e])
      | succ j => simpa using memb_false h j
theorem get_dn : ∀ {us : List Nat} {u j : Nat}, distinct us = true → us[j]? = some u → dn us u = some j
  | [], u, j, _, h => by simp at h
  | a :: r, u, j, hd, h => by
    simp only [distinct, Bool.and_eq_true, Bool.not_eq_true'] at hd
    cases j with
    | zero => simp at h; subst h; simp [dn]
    | succ j =>
      have h' : r[j]? = some u := by simpa using h
      have hne : u ≠ a := fun e => memb_false hd.1 j (by rw [← e]; exact h')
      simp only [dn]
      have hb : Nat.beq u a = false := by
        cases hb : Nat.beq u a
        · rfl
        · rw [Nat.beq_eq] at hb; exact absurd hb hne
      rw [hb]
      simp only [get_dn hd.2 h']

mutual
/-- The names of own rows changed; in what is only read, none. -/
def V.rn (g : Nat → Option Nat) : V → V
  | .agg cs => .agg (V.rnL g cs)
  | .tup cs => .tup (V.rnL g cs)
  | .hsl u i len => match g u with | some j => .hsl j i len | none => .junk
  | .ptr u n i off => match g u with | some j => .ptr j n i off | none => .junk
  | x => x.rl cut2
def V.rnL (g : Nat → Option Nat) : List V → List V
  | [] => []
  | x :: xs => V.rn g x :: V.rnL g xs
end
def rnR (g : Nat → Option Nat) (rows : List (List V)) : List (List V) := rows.map (V.rnL g)

structure Rn (g : Nat → Option Nat) (C C' : Ctx) (w w' : World) : Prop where
  rl : Rl cut2 C C' w w'
  loc : ∀ u j, g u = some j → u < C.nx → j < C'.nx ∧ ∀ L', C'.loc j = some L' → ∃ L, C.loc u = some L ∧ (L' = L ∨ L.n < L'.n)

mutual
theorem Rep.rn {g : Nat → Option Nat} {C C' : Ctx} {w w' : World} (E : Rn g C C' w w') : ∀ {v : Value} {x : V}, Rep C w v x → Rep C' w' v (x.rn g)
  | _, _, .int k n => Rep.rl E.rl (.int k n)
  | _, _, .bool b => Rep.rl E.rl (.bool b)
  | _, _, .str s => Rep.rl E.rl (.str s)
  | _, _, .agg h => .agg (RepL.rn E h)
  | _, _, .tup h => .tup (RepL.rn E h)
  | _, _, .psl0 a c l s => Rep.rl E.rl (.psl0 a c l s)
  | _, _, .psl vals hl hn hb hlen hcap hc hr => Rep.rl E.rl (.psl vals hl hn hb hlen hcap hc hr)
  | _, _, .psld v hl hn => Rep.rl E.rl (.psld v hl hn)
  | _, _, .hsl (u := u) (i := i) (len := len) hu h => by
    unfold V.rn
    split
    · rename_i j hj
      obtain ⟨h1, h2⟩ := E.loc u j hj hu
      refine .hsl h1 fun L' hL' => ?_
      obtain ⟨L, hL, hor⟩ := h2 L' hL'
      have := h L hL
      rcases hor with rfl | hlt
      · exact this
      · exact ⟨by omega, fun he => by omega⟩
    · exact .junk _
  | _, _, .nilsl => Rep.rl E.rl .nilsl
  | _, _, .ptr (u := u) hu h => by
    unfold V.rn
    split
    · rename_i j hj
      obtain ⟨h1, h2⟩ := E.loc u j hj hu
      refine .ptr h1 fun L' hL' => ?_
      obtain ⟨L, hL, hor⟩ := h2 L' hL'
      have := h L hL
      rcases hor with rfl | hlt
      · exact this
      · exact ⟨by omega, fun he => by omega⟩
    · exact .junk _
  | _, _, .pptr vals hl hn hb hc hr => Rep.rl E.rl (.pptr vals hl hn hb hc hr)
  | _, _, .pptrd v hl hn => Rep.rl E.rl (.pptrd v hl hn)
  | _, _, .nilp => Rep.rl E.rl .nilp
  | _, _, .fn f => Rep.rl E.rl (.fn f)
  | _, _, .junk v => Rep.rl E.rl (.junk v)
theorem RepL.rn {g : Nat → Option Nat} {C C' : Ctx} {w w' : World} (E : Rn g C C' w w') : ∀ {vs : List Value} {xs : List V}, RepL C w vs xs → RepL C' w' vs (V.rnL g xs)
  | _, _, .nil => .nil
  | _, _, .cons h t => .cons (Rep.rn E h) (RepL.rn E t)
end

theorem rnL_nil {g : Nat → Option Nat} : V.rnL g [] = [] := rfl
theorem rnL_cons {g : Nat → Option Nat} {x y : V} {xs ys : List V} (h : V.rn g x = y) (t : V.rnL g xs = ys) : V.rnL g (x :: xs) = y :: ys := by simp only [V.rnL, h, t]

/-- What the callee is handed. -/
def Ctx.lend (C : Ctx) (us : List Nat) : Ctx := { reg := fun l b => l ≤ 1 ∧ C.reg l b, lv := fun l => l ≤ 1, loc := fun j => (us[j]?).bind C.loc, nx := 3 }
/-- Behind the call. -/
def Ctx.home (C C2 : Ctx) (us : List Nat) : Ctx :=
  { reg := fun l b => C.reg l b ∨ (l = 1 ∧ C2.reg 1 b), lv := C.lv, loc := fun x => match dn us x with | some j => C2.loc j | none => C.loc x, nx := C.nx }

/-- Of the caller's rows, those that are lent are the callee's by these numbers. -/
def Lent (us : List Nat) (H h : List (Nat × HB)) : Prop :=
  (∀ j, hget h j = none → us[j]? = none) ∧ ∀ j hb', hget h j = some hb' → ∃ u hb, us[j]? = some u ∧ hget H u = some hb ∧ hb'.sz = hb.sz ∧ hb'.rows = rnR (dn us) hb.rows

theorem cut2_cases (l : Nat) : (l ≤ 1 ∧ cut2 l = l) ∨ (1 < l ∧ cut2 l = 2) := by
  unfold cut2
  rw [Bool.cond_eq_ite]
  split
  · rename_i h; rw [Nat.ble_eq] at h; exact .inl ⟨h, rfl⟩
  · rename_i h; rw [Nat.ble_eq] at h; exact .inr ⟨by omega, rfl⟩

section
variable {C : Ctx} {w : World} {us : List Nat} {H h : List (Nat × HB)}

theorem lend_rn (hs : HSt C w H) (hl : us.length ≤ 3) : Rn (dn us) C (C.lend us) w w := by
  refine ⟨⟨fun l _ => ?_, fun l _ h => ?_, fun l b _ h hb => ⟨?_, rfl⟩⟩, fun u j hj _ => ⟨?_, fun L' hL' => ⟨L', ?_, .inl rfl⟩⟩⟩
  · rcases cut2_cases l with ⟨h, e⟩ | ⟨h, e⟩ <;> rw [e] <;> show _ < 3 <;> omega
  · have h' : cut2 l ≤ 1 := h
    rcases cut2_cases l with ⟨h1, e⟩ | ⟨h1, e⟩
    · have : l = 0 ∨ l = 1 := by omega
      rcases this with rfl | rfl
      · exact hs.zero.1
      · exact hs.zero.2.1
    · omega
  · have h' : cut2 l ≤ 1 := h
    rcases cut2_cases l with ⟨h1, e⟩ | ⟨h1, e⟩
    · rw [e]; exact ⟨h1, hb⟩
    · omega
  · have := dn_get hj
    have hlt : j < us.length := by
      rcases Nat.lt_or_ge j us.length with h | h
      · exact h
      · simp [List.getElem?_eq_none h] at this
    show j < 3
    omega
  · have h1 := dn_get hj
    simp only [Ctx.lend, h1, Option.bind_some] at hL'
    exact hL'

theorem rows_rn {g : Nat → Option Nat} {C' : Ctx} {w' : World} (E : Rn g C C' w w') {L : Loc} {rows : List (List V)} (hb : ∀ b, L.blk = some b → w'.heap[b]? = w.heap[b]?) (h : Blk C w L rows) : Blk C' w' L (rnR g rows) := by
  unfold Blk at *
  split
  · rename_i hn; rw [hn] at h; exact ⟨by rw [h.1]; rfl, h.2⟩
  · rename_i b hn
    rw [hn] at h
    obtain ⟨cs, el, fz, h1, h2, h3, h4, vals, h5⟩ := h
    refine ⟨cs, el, fz, by rw [hb b hn]; exact h1, h2, by simpa [rnR] using h3, h4, vals, fun i row hi => ?_⟩
    simp only [rnR, List.getElem?_map] at hi
    cases hr : rows[i]? with
    | none => simp [hr] at hi
    | some r =>
      simp [hr] at hi
      subst hi
      obtain ⟨g1, g2, g3⟩ := h5 i r hr
      exact ⟨g1, fun j v hj => by rw [cell_of_block (hb b hn)]; exact g2 j v hj, RepL.rn E g3⟩

theorem lend_st (hs : HSt C w H) (hl : us.length ≤ 3) (hd : distinct us = true) (hL : Lent us H h) : HSt (C.lend us) w h := by
  have E := lend_rn hs hl
  have hloc : ∀ j L, (C.lend us).loc j = some L → ∃ u, us[j]? = some u ∧ C.loc u = some L := fun j L h => by
    simp only [Ctx.lend] at h
    cases hu : us[j]? with
    | none => simp [hu] at h
    | some u => simp [hu] at h; exact ⟨u, rfl, h⟩
  refine ⟨fun j hj => ?_, fun j hb' hj => ?_, fun j L hj => ?_, fun j j' L L' b h1 h2 h3 h4 => ?_, fun j L b l h1 h2 h3 h4 => ?_, fun l b h1 h2 => ?_, fun l h => ?_, fun l l' b h1 h2 h3 h4 => ?_, ⟨Nat.zero_le _, Nat.le_refl _, by show ¬ 2 ≤ 1; omega⟩, by show 2 < 3; omega⟩
  · simp only [Ctx.lend, hL.1 j hj, Option.bind_none]
  · obtain ⟨u, hb, g1, g2, g3, g4⟩ := hL.2 j hb' hj
    obtain ⟨L, e1, e2, e3, e4⟩ := hs.ent u hb g2
    refine ⟨L, by simp [Ctx.lend, g1, e1], by rw [e2, g3], by rw [e3, g4]; simp [rnR], ?_⟩
    rw [g4]
    exact rows_rn E (fun _ _ => rfl) e4
  · obtain ⟨u, h1, h2⟩ := hloc j L hj
    have hlt : j < us.length := by
      rcases Nat.lt_or_ge j us.length with h | h
      · exact h
      · simp [List.getElem?_eq_none h] at h1
    show j < 3
    omega
  · obtain ⟨u, g1, g2⟩ := hloc j L h1
    obtain ⟨u', g3, g4⟩ := hloc j' L' h2
    have := hs.inj u u' L L' b g2 g4 h3 h4
    subst this
    have e1 := get_dn hd g1
    have e2 := get_dn hd g3
    rw [e1] at e2
    exact Option.some.inj e2
  · obtain ⟨u, g1, g2⟩ := hloc j L h1
    have hlv : C.lv l := by
      have h3' : l ≤ 1 := h3
      have : l = 0 ∨ l = 1 := by omega
      rcases this with rfl | rfl
      · exact hs.zero.1
      · exact hs.zero.2.1
    exact hs.own u L b l g2 h2 hlv h4.2
  · have h1' : l ≤ 1 := h1
    have hlv : C.lv l := by
      have : l = 0 ∨ l = 1 := by omega
      rcases this with rfl | rfl
      · exact hs.zero.1
      · exact hs.zero.2.1
    exact hs.regs l b hlv h2.2
  · have h' : l ≤ 1 := h
    show l < 3
    omega
  · have hlv : ∀ l, l ≤ 1 → C.lv l := fun l hl => by
      have : l = 0 ∨ l = 1 := by omega
      rcases this with rfl | rfl
      · exact hs.zero.1
      · exact hs.zero.2.1
    exact hs.rdis l l' b (hlv l h3.1) (hlv l' h4.1) h3.2 h4.2


/-- The caller's rows behind the call. -/
def HomeOK (us : List Nat) (H h2 H2 : List (Nat × HB)) : Prop :=
  ∀ x, (∀ j, dn us x = some j → hget H2 x = (hget h2 j).map fun hb => ⟨hb.sz, rnR (us[·]?) hb.rows⟩) ∧ (dn us x = none → hget H2 x = hget H x)

theorem lend_own {b : Nat} (h : Own (C.lend us) b) : ∃ (j u : Nat) (L : Loc), us[j]? = some u ∧ C.loc u = some L ∧ L.blk = some b := by
  rcases h with ⟨j, L, h1, h2⟩ | ⟨l, h1, h2, _⟩
  · simp only [Ctx.lend] at h1
    cases hu : us[j]? with
    | none => simp [hu] at h1
    | some u => simp [hu] at h1; exact ⟨j, u, L, hu, h1, h2⟩
  · have : l ≤ 1 := h2
    omega

theorem lent_in (hL : Lent us H h) {j u : Nat} (hu : us[j]? = some u) : ∃ hb, hget H u = some hb := by
  cases hj : hget h j with
  | none => rw [hL.1 j hj] at hu; cases hu
  | some hb' =>
    obtain ⟨u', hb, g1, g2, _⟩ := hL.2 j hb' hj
    rw [hu] at g1
    simp only [Option.some.injEq] at g1
    subst g1
    exact ⟨hb, g2⟩

theorem get_lt3 (hl : us.length ≤ 3) {j u : Nat} (h : us[j]? = some u) : j < 3 := by
  have hlt : j < us.length := by
    rcases Nat.lt_or_ge j us.length with h' | h'
    · exact h'
    · simp [List.getElem?_eq_none h'] at h
  omega

theorem home_fr {C2 : Ctx} {w' : World} (hl : us.length ≤ 3) (F : Fr (C.lend us) C2 w w') : Fr C (C.home C2 us) w w' where
  size := F.size
  keep b hb ho := F.keep b hb fun h => by
    obtain ⟨j, u, L, _, h2, h3⟩ := lend_own h
    exact ho (.inl ⟨u, L, h2, h3⟩)
  own b h := by
    have key : Own C2 b → Own C b ∨ w.heap.size ≤ b := fun h => by
      rcases F.own b h with h | h
      · obtain ⟨j, u, L, _, h2, h3⟩ := lend_own h
        exact .inl (.inl ⟨u, L, h2, h3⟩)
      · exact .inr h
    rcases h with ⟨x, L, h1, h2⟩ | ⟨l, h1, h2, h3⟩
    · simp only [Ctx.home] at h1
      split at h1
      · rename_i j hj
        exact key (.inl ⟨j, L, h1, h2⟩)
      · exact .inl (.inl ⟨x, L, h1, h2⟩)
    · rcases h3 with h3 | ⟨e, _⟩
      · exact .inl (.inr ⟨l, h1, h2, h3⟩)
      · omega
  r0 b h := by
    rcases h with h | ⟨e, _⟩
    · exact h
    · omega
  r1 b h := by
    rcases h with h | ⟨_, h⟩
    · exact .inl h
    · rcases F.r1 b h with h | h | h
      · exact .inl h.2
      · obtain ⟨j, u, L, _, h2, h3⟩ := lend_own h
        exact .inr (.inl (.inl ⟨u, L, h2, h3⟩))
      · exact .inr (.inr h)
  os := F.os
  out := F.out
  low u hu L' h := by
    simp only [Ctx.home] at h
    split at h
    · rename_i j hj
      have hg := dn_get hj
      obtain ⟨L, h1, h2⟩ := F.low j (get_lt3 hl hg) L' h
      simp only [Ctx.lend, hg, Option.bind_some] at h1
      exact ⟨L, h1, h2⟩
    · exact ⟨L', h, .inl rfl⟩

theorem home_ext {C2 : Ctx} {w' : World} (hs : HSt C w H) (hl : us.length ≤ 3) (F : Fr (C.lend us) C2 w w') : Ext C (C.home C2 us) w w' where
  nx := Nat.le_refl _
  loc u L' hu h := by
    simp only [Ctx.home] at h
    split at h
    · rename_i j hj
      have hg := dn_get hj
      obtain ⟨L, h1, h2⟩ := F.low j (get_lt3 hl hg) L' h
      simp only [Ctx.lend, hg, Option.bind_some] at h1
      exact ⟨L, h1, h2⟩
    · exact ⟨L', h, .inl rfl⟩
  lv l _ h := h
  reg l b _ hlv hb := ⟨.inl hb, F.keep b (hs.regs l b hlv hb) fun h => by
    obtain ⟨j, u, L, _, h2, h3⟩ := lend_own h
    exact hs.own u L b l h2 h3 hlv hb⟩

theorem home_rn {C2 : Ctx} {w' : World} {h2 : List (Nat × HB)} (hs : HSt C w H) (hd : distinct us = true) (hL : Lent us H h) (F : Fr (C.lend us) C2 w w') (hst : HSt C2 w' h2) : Rn (us[·]?) C2 (C.home C2 us) w' w' := by
  refine ⟨⟨fun l _ => ?_, fun l _ hlv => ?_, fun l b _ hlv hb => ⟨?_, rfl⟩⟩, fun j u hj _ => ⟨?_, fun L' hL' => ⟨L', ?_, .inl rfl⟩⟩⟩
  · have := hs.two
    rcases cut2_cases l with ⟨h, e⟩ | ⟨h, e⟩ <;> rw [e] <;> show _ < C.nx <;> omega
  · rcases cut2_cases l with ⟨h, e⟩ | ⟨h, e⟩
    · have : l = 0 ∨ l = 1 := by omega
      rcases this with rfl | rfl
      · exact hst.zero.1
      · exact hst.zero.2.1
    · rw [e] at hlv; exact absurd hlv hs.zero.2.2
  · rcases cut2_cases l with ⟨h, e⟩ | ⟨h, e⟩
    · rw [e]
      have : l = 0 ∨ l = 1 := by omega
      rcases this with rfl | rfl
      · exact .inl (F.r0 b hb).2
      · exact .inr ⟨rfl, hb⟩
    · rw [e] at hlv; exact absurd hlv hs.zero.2.2
  · obtain ⟨hb, hu⟩ := lent_in hL hj
    obtain ⟨L, e1, _⟩ := hs.ent u hb hu
    exact hs.lt u L e1
  · simp only [Ctx.home, get_dn hd hj] at hL'
    exact hL'

theorem home_st {C2 : Ctx} {w' : World} {h2 H2 : List (Nat × HB)} (hs : HSt C w H) (hl : us.length ≤ 3) (hd : distinct us = true) (hL : Lent us H h) (F : Fr (C.lend us) C2 w w') (hst : HSt C2 w' h2) (hH : HomeOK us H h2 H2) : HSt (C.home C2 us) w' H2 := by
  have E := home_ext hs hl F
  have R := home_rn hs hd hL F hst
  have hdn : ∀ {u L b}, Own (C.lend us) b → C.loc u = some L → L.blk = some b → ∃ j, dn us u = some j := fun h h1 h2 => by
    obtain ⟨j, u', L', g1, g2, g3⟩ := lend_own h
    have := hs.inj _ _ _ _ _ g2 h1 g3 h2
    subst this
    exact ⟨j, get_dn hd g1⟩
  refine ⟨fun x hx => ?_, fun x hb hx => ?_, fun x L hx => ?_, fun x x' L L' b h1 h2 h3 h4 => ?_, fun x L b l h1 h2 h3 h4 => ?_, fun l b h1 h2 => ?_, hs.lvs, fun l l' b h1 h2 h3 h4 => ?_, hs.zero, hs.two⟩
  · simp only [Ctx.home]
    split
    · rename_i j hj
      rw [(hH x).1 j hj] at hx
      refine hst.dom j ?_
      cases hg : hget h2 j with
      | none => rfl
      | some q => rw [hg] at hx; cases hx
    · rename_i hj
      rw [(hH x).2 hj] at hx
      exact hs.dom x hx
  · cases hj : dn us x with
    | some j =>
      rw [(hH x).1 j hj] at hx
      cases hg : hget h2 j with
      | none => rw [hg] at hx; cases hx
      | some q =>
        rw [hg] at hx
        simp only [Option.map_some, Option.some.injEq] at hx
        subst hx
        obtain ⟨L, e1, e2, e3, e4⟩ := hst.ent j q hg
        exact ⟨L, by simp [Ctx.home, hj, e1], e2, by rw [e3]; simp [rnR], rows_rn R (fun _ _ => rfl) e4⟩
    | none =>
      rw [(hH x).2 hj] at hx
      obtain ⟨L, e1, e2, e3, e4⟩ := hs.ent x hb hx
      refine ⟨L, by simp [Ctx.home, hj, e1], e2, e3, e4.mono E fun b hbk => F.keep b (blk_lt e4 hbk) fun h => ?_⟩
      obtain ⟨j, hj'⟩ := hdn h e1 hbk
      rw [hj] at hj'; cases hj'
  · simp only [Ctx.home] at hx
    split at hx
    · rename_i j hj
      obtain ⟨hb, hu⟩ := lent_in hL (dn_get hj)
      obtain ⟨L0, e1, _⟩ := hs.ent x hb hu
      exact hs.lt x L0 e1
    · exact hs.lt x L hx
  · have mix : ∀ {j x' L L'}, C2.loc j = some L → L.blk = some b → dn us x' = none → C.loc x' = some L' → L'.blk = some b → False := fun g1 g2 g3 g4 g5 => by
      rcases F.own b (.inl ⟨_, _, g1, g2⟩) with h | h
      · obtain ⟨j, hj⟩ := hdn h g4 g5
        rw [g3] at hj; cases hj
      · have := loc_lt hs g4 g5
        omega
    simp only [Ctx.home] at h1 h2
    cases hj : dn us x with
    | some j =>
      rw [hj] at h1; simp only at h1
      cases hj' : dn us x' with
      | some j' =>
        rw [hj'] at h2; simp only at h2
        have := hst.inj j j' L L' b h1 h2 h3 h4
        subst this
        have e1 := dn_get hj
        have e2 := dn_get hj'
        rw [e1] at e2
        exact Option.some.inj e2
      | none =>
        rw [hj'] at h2; simp only at h2
        exact (mix h1 h3 hj' h2 h4).elim
    | none =>
      rw [hj] at h1; simp only at h1
      cases hj' : dn us x' with
      | some j' =>
        rw [hj'] at h2; simp only at h2
        exact (mix h2 h4 hj h1 h3).elim
      | none =>
        rw [hj'] at h2; simp only at h2
        exact hs.inj x x' L L' b h1 h2 h3 h4
  · simp only [Ctx.home] at h1
    split at h1
    · rename_i j hj
      rcases h4 with h4 | ⟨rfl, h4⟩
      · rcases F.own b (.inl ⟨_, _, h1, h2⟩) with h | h
        · obtain ⟨j, u, L0, _, g2, g3⟩ := lend_own h
          exact hs.own u L0 b l g2 g3 h3 h4
        · have := hs.regs l b h3 h4
          omega
      · exact hst.own j L b 1 h1 h2 hst.zero.2.1 h4
    · rename_i hn
      rcases h4 with h4 | ⟨rfl, h4⟩
      · exact hs.own x L b l h1 h2 h3 h4
      · rcases F.r1 b h4 with h | h | h
        · exact hs.own x L b 1 h1 h2 h3 h.2
        · obtain ⟨j, hj⟩ := hdn h h1 h2
          rw [hn] at hj; cases hj
        · have := loc_lt hs h1 h2
          omega
  · rcases h2 with h2 | ⟨rfl, h2⟩
    · exact Nat.lt_of_lt_of_le (hs.regs l b h1 h2) F.size
    · exact hst.regs 1 b hst.zero.2.1 h2
  · have mix : ∀ {l}, C.lv l → C.reg l b → C2.reg 1 b → l = 1 := fun g1 g2 g3 => by
      rcases F.r1 b g3 with h | h | h
      · exact hs.rdis _ 1 b g1 hs.zero.2.1 g2 h.2
      · obtain ⟨j, u, L0, _, e2, e3⟩ := lend_own h
        exact (hs.own u L0 b _ e2 e3 g1 g2).elim
      · have := hs.regs _ b g1 g2
        omega
    rcases h3 with h3 | ⟨rfl, h3⟩ <;> rcases h4 with h4 | ⟨rfl, h4⟩
    · exact hs.rdis l l' b h1 h2 h3 h4
    · exact mix h1 h3 h4
    · exact (mix h2 h4 h3).symm
    · rfl

/-- A CALL that is handed rows of ours. -/
theorem call_lend {P : Program} {s : St} {ops : Array Oper} {f : FuncId} {args : List Operand} {args' : List V} {R : V → List (Nat × HB) → Prop} {tys : Array TypeId} {d : Option Nat} {ty : Nat} {pos : String} {af : Array Edge} {gu : Option (Nat × Bool)} {r : List Oper} {K : St → Prop}
    (us : List Nat) {h : List (Nat × HB)} (hc : FC P f args' h 3 R) (hg : gd ops.toList s gu = some true) (hl : Nat.ble us.length 3 = true) (hd : distinct us = true) (hv : V.rnL (dn us) (evL s args) = args') (hL : Lent us s.heap h)
    (hk : ∀ x h2, R x h2 → ∃ H2 s1, HomeOK us s.heap h2 H2 ∧ ({ s with heap := H2 } : St).put d (x.rn (us[·]?)) = some s1 ∧ AOps P ops r s1 K) :
    AOps P ops (⟨d, .call ⟨.value (.func f), ⟨args⟩, tys⟩, ty, pos, af, gu⟩ :: r) s K :=
  aops_call hg hc.1 fun C w a hs => by
    have hl' : us.length ≤ 3 := Nat.le_of_ble_eq_true hl
    have hargs : RepL (C.lend us) w (args.map a.eval) args' := by
      rw [← hv]
      exact RepL.rn (lend_rn hs.heap hl') (evL_rep hs args)
    refine (hc.2 (C.lend us) w ⟨args.map a.eval⟩ rfl (lend_st hs.heap hl' hd hL) hargs).mono ?_
    rintro e w' ⟨v, C2, x, h2, rfl, e2, e3, e4, e5⟩
    obtain ⟨H2, s1, p1, p2, p3⟩ := hk x h2 e5
    have E := home_ext hs.heap hl' e4
    exact ⟨v, C.home C2 us, s1, rfl, put_rep (C := C.home C2 us) (w := w') (s := { s with heap := H2 }) ⟨hs.defers, hs.size, hs.nx, fun i => (hs.env i).mono E, home_st hs.heap hl' hd hL e4 e2 p1, hs.lv⟩ (Rep.rn (home_rn hs.heap hd hL e4 e2) e3) p2, home_fr hl' e4, p3⟩

/-- The same with one row, which comes back. -/
theorem call_lend1 {P : Program} {s : St} {ops : Array Oper} {f : FuncId} {args : List Operand} {args' : List V} {tys : Array TypeId} {d : Option Nat} {ty : Nat} {pos : String} {af : Array Edge} {gu : Option (Nat × Bool)} {r : List Oper} {K : St → Prop} {s1 : St}
    (u : Nat) {sz sz2 : Nat} {rows0 rows2 : List (List V)} {y : V} (hc : FC P f args' [(0, ⟨sz, rows0⟩)] 3 (fun x h2 => x = y ∧ hget h2 0 = some ⟨sz2, rows2⟩)) (hg : gd ops.toList s gu = some true) (hv : V.rnL (dn [u]) (evL s args) = args')
    (hu : hget s.heap u = some ⟨sz, rows0⟩) (hin : rnR (dn [u]) rows0 = rows0) (hy : y.rn ([u][·]?) = y) (hout : rnR ([u][·]?) rows2 = rows2) (hp : (s.wr u ⟨sz2, rows2⟩).put d y = some s1) (h : AOps P ops r s1 K) :
    AOps P ops (⟨d, .call ⟨.value (.func f), ⟨args⟩, tys⟩, ty, pos, af, gu⟩ :: r) s K := by
  refine call_lend [u] hc hg rfl rfl hv ⟨fun j hj => ?_, fun j hb' hj => ?_⟩ fun x h2 hR => ⟨(u, ⟨sz2, rows2⟩) :: s.heap, s1, fun x => ⟨fun j hj => ?_, fun hj => ?_⟩, ?_, h⟩
  · cases j with
    | zero => cases hj
    | succ j => simp
  · cases j with
    | zero =>
      simp only [hget, Nat.beq_refl, cond_true, Option.some.injEq] at hj
      subst hj
      exact ⟨u, ⟨sz, rows0⟩, rfl, hu, rfl, hin.symm⟩
    | succ j => cases hj
  · have hx := dn_get hj
    have hj0 : j = 0 := by
      cases j with
      | zero => rfl
      | succ j => simp at hx
    subst hj0
    simp at hx
    subst hx
    simp only [hget, Nat.beq_refl, cond_true, hR.2, Option.map_some, hout]
  · have hne : Nat.beq x u = false := by
      cases hb : Nat.beq x u
      · rfl
      · simp [dn, hb] at hj
    simp only [hget, hne, cond_false]
  · rw [hR.1, hy]
    cases s
    exact hp

theorem ret_ro {T : List TI} {s : St} {rs : List ResultVar} {r y : V} {hb : HB} (h : resV T s rs = some r) (hR : r = y) (hh : hget s.heap 0 = some hb) : retK T rs (fun x h2 => x = y ∧ hget h2 0 = some hb) .ret s := ⟨r, h, hR, hh⟩

end
end Go.Abs
