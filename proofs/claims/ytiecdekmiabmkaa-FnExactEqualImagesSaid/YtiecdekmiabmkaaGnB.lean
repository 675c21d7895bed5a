/-
  States that tell less, by other names: what may be put in the place of a state.
-/
import Derived.Test.YtiecdekmiabmkaaGnA
set_option linter.unusedVariables false
set_option linter.unusedSimpArgs false
namespace Go.Abs

/-- Where the one state holds, the other does. -/
def Le (s s' : St) : Prop := ∀ C w a, StRep C w a s → ∃ C', StRep C' w a s' ∧ Fr C C' w w

theorem Le.refl (s : St) : Le s s := fun C w a h => ⟨C, h, Fr.refl _ _⟩
theorem Le.trans {s s' s2 : St} (h : Le s s') (g : Le s' s2) : Le s s2 := fun C w a hs => by
  obtain ⟨C1, h1, f1⟩ := h C w a hs
  obtain ⟨C2, h2, f2⟩ := g C1 w a h1
  exact ⟨C2, h2, f1.trans f2⟩
theorem le_down {s s' : St} (d : Down s s') : Le s s' := fun C w a hs => ⟨_, d.rep hs⟩
theorem le_same {s s' : St} (h : ∀ C w a, StRep C w a s → StRep C w a s') : Le s s' := fun C w a hs => ⟨C, h C w a hs, Fr.refl _ _⟩

section
variable {P : Program} {s s' : St}
theorem at_le {c : Code} {K : Exit → St → Prop} (d : Le s s') (h : AT P c s' K) : AT P c s K := by
  intro C w a hs
  obtain ⟨C', h1, h2⟩ := d C w a hs
  exact wp_mono (h C' w a h1) (fun e a w q => post_step h2 q)
theorem ops_le {ops : Array Oper} {l : List Oper} {K : St → Prop} (d : Le s s') (h : AOps P ops l s' K) : AOps P ops l s K := by
  intro C w a Q hs g
  obtain ⟨C', h1, h2⟩ := d C w a hs
  exact h C' w a Q h1 (goal_step h2 g)

/-- A slot's value weakened. -/
theorem le_slot (i : Nat) {x y : V} (hx : eget s.env i = x) (h : VLe x y) (hs' : s.ovr i y = s') : Le s s' := le_same fun C w a hs => by
  subst hs'; subst hx
  cases s with
  | mk env heap nx n lv =>
    refine ⟨hs.defers, hs.size, hs.nx, fun j => ?_, hs.heap, hs.lv⟩
    simp only [St.ovr, eget]
    rw [Bool.cond_eq_ite]
    split
    · rename_i hj; rw [Nat.beq_eq] at hj; subst hj; exact h C w _ (hs.env _)
    · exact hs.env j

/-- A row's cells weakened. -/
def RLe : List (List V) → List (List V) → Prop
  | [], [] => True
  | r :: rs, q :: qs => VLeL r q ∧ RLe rs qs
  | _, _ => False
theorem RLe.get : ∀ {rs qs : List (List V)}, RLe rs qs → rs.length = qs.length ∧ ∀ (i : Nat) q, qs[i]? = some q → ∃ r, rs[i]? = some r ∧ VLeL r q
  | [], [], _ => ⟨rfl, fun i q h => by simp at h⟩
  | r :: rs, q :: qs, h => by
    obtain ⟨h1, h2⟩ := RLe.get h.2
    refine ⟨by simp [h1], fun i q' hq => ?_⟩
    cases i with
    | zero => simp at hq; subst hq; exact ⟨r, rfl, h.1⟩
    | succ i => simpa using h2 i q' (by simpa using hq)
  | [], _ :: _, h => h.elim
  | _ :: _, [], h => h.elim

theorem blk_le {C : Ctx} {w : World} {L : Loc} {rows rows' : List (List V)} (h : RLe rows rows') (hb : Blk C w L rows) : Blk C w L rows' := by
  obtain ⟨hl, hg⟩ := h.get
  unfold Blk at hb ⊢
  split
  · rename_i hn; rw [hn] at hb
    have : rows' = [] := by have := hb.1; subst this; simpa using hl.symm
    exact ⟨this, hb.2⟩
  · rename_i b hn
    rw [hn] at hb
    obtain ⟨cs, el, fz, h1, h2, h3, h4, vals, h5⟩ := hb
    refine ⟨cs, el, fz, h1, h2, by omega, h4, vals, fun i row hi => ?_⟩
    obtain ⟨r, hr, hv⟩ := hg i row hi
    exact ⟨(h5 i r hr).1, (h5 i r hr).2.1, hv.rep (h5 i r hr).2.2⟩

theorem le_row (u : Nat) {sz : Nat} {rows rows' : List (List V)} (hu : hget s.heap u = some ⟨sz, rows⟩) (h : RLe rows rows') (hs' : s.wr u ⟨sz, rows'⟩ = s') : Le s s' := le_same fun C w a hs => by
  subst hs'
  cases s with
  | mk env heap nx n lv =>
    refine ⟨hs.defers, hs.size, hs.nx, hs.env, ?_, hs.lv⟩
    have H := hs.heap
    refine ⟨fun x hx => ?_, fun x hb hx => ?_, H.lt, H.inj, H.own, H.regs, H.lvs, H.rdis, H.zero, H.two⟩
    · simp only [St.wr, hget] at hx
      rw [Bool.cond_eq_ite] at hx
      split at hx
      · cases hx
      · exact H.dom x hx
    · simp only [St.wr, hget] at hx
      rw [Bool.cond_eq_ite] at hx
      split at hx
      · rename_i he
        rw [Nat.beq_eq] at he
        subst he
        simp only [Option.some.injEq] at hx
        subst hx
        obtain ⟨L, e1, e2, e3, e4⟩ := H.ent _ _ hu
        refine ⟨L, e1, e2, ?_, blk_le h e4⟩
        rw [e3]; exact h.get.1
      · exact H.ent x hb hx

/-- A slice of the call's own, in slot i, is only read from here on. -/
theorem le_freeze (i : Nat) {u n sz : Nat} {rows : List (List V)} (hv : eget s.env i = .hsl u 0 n) (hu : hget s.heap u = some ⟨sz, rows⟩) (hn : n = rows.length) (hs' : s.frz i u sz rows = s') : Le s s' := fun C w a hs => by
  subst hs'
  exact frz_rep hs hv hu hn

/-- More numbers given away. -/
def St.bump : St → Nat → St
  | ⟨env, heap, nx, n, lv⟩, m => ⟨env, heap, m, n, lv⟩
theorem le_bump (m : Nat) (hm : Nat.ble s.nx m = true) (hs' : s.bump m = s') : Le s s' := fun C w a hs => by
  subst hs'
  have hm' := Nat.le_of_ble_eq_true hm
  let C' : Ctx := { C with nx := m }
  have hnx : C.nx ≤ m := by rw [hs.nx]; exact hm'
  have E : Ext C C' w w := ⟨hnx, fun u L _ h => ⟨L, h, .inl rfl⟩, fun _ _ h => h, fun _ _ _ _ h => ⟨h, rfl⟩⟩
  have H := hs.heap
  refine ⟨C', ⟨hs.defers, ?_, ?_, fun i => ?_, ?_, ?_⟩, ⟨Nat.le_refl _, fun _ _ _ => rfl, fun b h => .inl h, fun b h => h, fun b h => .inl h, rfl, rfl, fun u _ L h => ⟨L, h, .inl rfl⟩⟩⟩
  · cases s; exact hs.size
  · cases s; rfl
  · have := (hs.env i).mono E
    cases s; exact this
  · have key : HSt C' w s.heap := by
      refine ⟨H.dom, fun u hb hu => ?_, fun u L hL => Nat.lt_of_lt_of_le (H.lt u L hL) hnx, H.inj, H.own, H.regs, fun l hl => Nat.lt_of_lt_of_le (H.lvs l hl) hnx, H.rdis, ?_, Nat.lt_of_lt_of_le H.two hnx⟩
      · obtain ⟨L, e1, e2, e3, e4⟩ := H.ent u hb hu
        exact ⟨L, e1, e2, e3, e4.mono E (fun _ _ => rfl)⟩
      · exact H.zero
    cases s; exact key
  · cases s; exact hs.lv

/-- A slice that is nil, as an own row of no elements. -/
def St.nilrow : St → Nat → Nat → St
  | ⟨env, heap, nx, n, lv⟩, i, sz => ⟨(i, .hsl nx 0 0) :: env, (nx, ⟨sz, []⟩) :: heap, nx + 1, n, lv⟩

theorem hst_nil {C : Ctx} {w : World} {h : List (Nat × HB)} (H : HSt C w h) (sz : Nat) : HSt (C.set C.nx ⟨none, sz, 0, 0⟩ (C.nx + 1)) w ((C.nx, ⟨sz, []⟩) :: h) ∧ Ext C (C.set C.nx ⟨none, sz, 0, 0⟩ (C.nx + 1)) w w ∧ Fr C (C.set C.nx ⟨none, sz, 0, 0⟩ (C.nx + 1)) w w := by
  have hloc : ∀ u L, (C.set C.nx ⟨none, sz, 0, 0⟩ (C.nx + 1)).loc u = some L → (u = C.nx ∧ L.blk = none) ∨ C.loc u = some L := fun u L h => by
    simp only [Ctx.set] at h
    split at h
    · simp only [Option.some.injEq] at h; subst h; exact .inl ⟨by assumption, rfl⟩
    · exact .inr h
  have E : Ext C (C.set C.nx ⟨none, sz, 0, 0⟩ (C.nx + 1)) w w := by
    refine ⟨Nat.le_succ _, fun u L hu h => ?_, fun _ _ h => h, fun _ _ _ _ h => ⟨h, rfl⟩⟩
    simp only [Ctx.set] at h
    rw [if_neg (by omega)] at h
    exact ⟨L, h, .inl rfl⟩
  refine ⟨⟨fun u hu => ?_, fun u hb hu => ?_, fun u L hL => ?_, fun u u' L L' b h1 h2 h3 h4 => ?_, fun u L b l h1 h2 h3 h4 => ?_, H.regs, fun l hl => Nat.lt_succ_of_lt (H.lvs l hl), H.rdis, H.zero, Nat.lt_succ_of_lt H.two⟩, E, ?_⟩
  · simp only [hget] at hu
    rw [Bool.cond_eq_ite] at hu
    split at hu
    · cases hu
    · rename_i hne
      rw [Nat.beq_eq] at hne
      simp only [Ctx.set]
      rw [if_neg hne]
      exact H.dom u hu
  · simp only [hget] at hu
    rw [Bool.cond_eq_ite] at hu
    split at hu
    · rename_i he
      rw [Nat.beq_eq] at he
      simp only [Option.some.injEq] at hu
      subst hu; subst he
      exact ⟨⟨none, sz, 0, 0⟩, by simp [Ctx.set], rfl, rfl, rfl, rfl⟩
    · rename_i hne
      rw [Nat.beq_eq] at hne
      obtain ⟨L, e1, e2, e3, e4⟩ := H.ent u hb hu
      exact ⟨L, by simp [Ctx.set, hne, e1], e2, e3, e4.mono E (fun _ _ => rfl)⟩
  · rcases hloc u L hL with ⟨rfl, _⟩ | h
    · exact Nat.lt_succ_self _
    · exact Nat.lt_succ_of_lt (H.lt u L h)
  · rcases hloc u L h1 with ⟨_, e⟩ | h1'
    · rw [e] at h3; cases h3
    · rcases hloc u' L' h2 with ⟨_, e⟩ | h2'
      · rw [e] at h4; cases h4
      · exact H.inj u u' L L' b h1' h2' h3 h4
  · rcases hloc u L h1 with ⟨_, e⟩ | h1'
    · rw [e] at h2; cases h2
    · exact H.own u L b l h1' h2 h3 h4
  · refine ⟨Nat.le_refl _, fun _ _ _ => rfl, fun b h => ?_, fun b h => h, fun b h => .inl h, rfl, rfl, fun u hu L h => ?_⟩
    · rcases h with ⟨u, L, h1, h2⟩ | h
      · rcases hloc u L h1 with ⟨_, e⟩ | h1'
        · rw [e] at h2; cases h2
        · exact .inl (.inl ⟨u, L, h1', h2⟩)
      · exact .inl (.inr h)
    · have := H.two
      rcases hloc u L h with ⟨e, _⟩ | h'
      · omega
      · exact ⟨L, h', .inl rfl⟩

theorem rep_nilrow {C : Ctx} {w : World} {v : Value} (sz : Nat) (h : Rep C w v .nilsl) : Rep (C.set C.nx ⟨none, sz, 0, 0⟩ (C.nx + 1)) w v (.hsl C.nx 0 0) := by
  cases h
  refine .hsl (Nat.lt_succ_self _) fun L hL => ?_
  simp only [Ctx.set, if_pos] at hL
  simp only [Option.some.injEq] at hL
  subst hL
  exact ⟨Nat.le_refl _, fun _ => rfl⟩

theorem le_nilrow (i sz : Nat) (hv : eget s.env i = .nilsl) (hs' : s.nilrow i sz = s') : Le s s' := fun C w a hs => by
  subst hs'
  obtain ⟨h1, h2, h3⟩ := hst_nil hs.heap sz
  cases s with
  | mk env heap nx n lv =>
    have hnx : C.nx = nx := hs.nx
    subst hnx
    refine ⟨_, ⟨hs.defers, hs.size, rfl, fun j => ?_, h1, hs.lv⟩, h3⟩
    simp only [St.nilrow, eget]
    rw [Bool.cond_eq_ite]
    split
    · rename_i hj
      rw [Nat.beq_eq] at hj
      subst hj
      have := hs.env j
      rw [hv] at this
      exact rep_nilrow sz this
    · exact (hs.env j).mono h2

/-- A cell of a row that is nil, as an own row of no elements. -/
def St.nilcell : St → Nat → Nat → Nat → List V → List V → Nat → St
  | ⟨env, heap, nx, n, lv⟩, u, rsz, k, pre, suf, sz => ⟨env, (u, ⟨rsz, [pre ++ .hsl nx 0 0 :: suf]⟩) :: (nx, ⟨sz, []⟩) :: heap, nx + 1, n, lv⟩

theorem le_nilcell (u sz : Nat) {rsz k : Nat} {pre suf row : List V} (hu : hget s.heap u = some ⟨rsz, [row]⟩) (hr : row = pre ++ .nilsl :: suf) (hs' : s.nilcell u rsz k pre suf sz = s') : Le s s' := fun C w a hs => by
  subst hs'; subst hr
  obtain ⟨h1, h2, h3⟩ := hst_nil hs.heap sz
  cases s with
  | mk env heap nx n lv =>
    have hnx : C.nx = nx := hs.nx
    subst hnx
    refine ⟨_, ⟨hs.defers, hs.size, rfl, fun j => (hs.env j).mono h2, ?_, hs.lv⟩, h3⟩
    have hlt : u < C.nx := by obtain ⟨L, e1, _⟩ := hs.heap.ent _ _ hu; exact hs.heap.lt u L e1
    refine ⟨fun x hx => ?_, fun x hb hx => ?_, h1.lt, h1.inj, h1.own, h1.regs, h1.lvs, h1.rdis, h1.zero, h1.two⟩
    · simp only [St.nilcell, hget] at hx
      rw [Bool.cond_eq_ite] at hx
      split at hx
      · cases hx
      · exact h1.dom x hx
    · simp only [St.nilcell, hget] at hx
      rw [Bool.cond_eq_ite] at hx
      split at hx
      · rename_i he
        rw [Nat.beq_eq] at he
        subst he
        simp only [Option.some.injEq] at hx
        subst hx
        have hu1 : hget ((C.nx, ⟨sz, []⟩) :: heap) x = some ⟨rsz, [pre ++ .nilsl :: suf]⟩ := by
          simp only [hget]
          rw [Bool.cond_eq_ite, if_neg (by simp; omega)]
          exact hu
        obtain ⟨L, e1, e2, e3, e4⟩ := h1.ent _ _ hu1
        refine ⟨L, e1, e2, e3, ?_⟩
        -- the block: the one row's cells
        obtain ⟨L0, f1, f2, f3, f4⟩ := hs.heap.ent _ _ hu
        have eL : L = L0 := by
          have : (C.set C.nx ⟨none, sz, 0, 0⟩ (C.nx + 1)).loc x = C.loc x := by simp only [Ctx.set]; rw [if_neg (by omega)]
          rw [this, f1] at e1; simpa using e1.symm
        subst eL
        unfold Blk at f4 ⊢
        split
        · rename_i hn; rw [hn] at f4; exact absurd f4.1 (by simp)
        · rename_i b hn
          rw [hn] at f4
          obtain ⟨cs, el, fz, g1, g2, g3, g4, vals, g5⟩ := f4
          refine ⟨cs, el, fz, g1, g2, g3, g4, vals, fun i row hi => ?_⟩
          cases i with
          | succ i => simp at hi
          | zero =>
            simp at hi; subst hi
            obtain ⟨q1, q2, q3⟩ := g5 0 _ rfl
            refine ⟨q1, q2, ?_⟩
            have : ∀ {vs : List Value} {pre : List V}, RepL C w vs (pre ++ .nilsl :: suf) → RepL (C.set C.nx ⟨none, sz, 0, 0⟩ (C.nx + 1)) w vs (pre ++ .hsl C.nx 0 0 :: suf) := by
              intro vs pre
              induction pre generalizing vs with
              | nil => intro h; cases h with | cons h t => exact .cons (rep_nilrow sz h) (RepL.mono h2 t)
              | cons x pre ih => intro h; cases h with | cons h t => exact .cons (h.mono h2) (ih t)
            exact this q3
      · exact h1.ent x hb hx

end

/-! ### Cuts and loops by these -/
section
variable {P : Program} {s : St} {K : Exit → St → Prop}

theorem cl_cut {x y : Code} (Q : St → Prop) (h : AT P x s (thenK Q K)) (h2 : ∀ s', Q s' → AT P y s' K) : AT P (.seq x y) s K := by
  refine at_seq ?_
  unfold AT at *
  intro C w a hs
  refine wp_mono (h C w a hs) ?_
  rintro e a' w' ⟨C', s', q1, q2, q3⟩
  refine ⟨C', s', q1, q2, ?_⟩
  cases e with
  | normal => exact h2 s' q3
  | _ => exact q3

theorem cl_cut0 {x y : Code} (J : St) (Φ : Prop) (h : AT P x s (thenK (fun s' => Φ ∧ Le s' J) K)) (h2 : Φ → AT P y J K) : AT P (.seq x y) s K :=
  cl_cut _ h fun s' ⟨hv, d⟩ => at_le d (h2 hv)
theorem cl_cutn {σ : Type} {x y : Code} (J : σ → St) (Φ : σ → Prop) (h : AT P x s (thenK (fun s' => ∃ v, Φ v ∧ Le s' (J v)) K)) (h2 : ∀ v, Φ v → AT P y (J v) K) : AT P (.seq x y) s K :=
  cl_cut _ h fun s' ⟨v, hv, d⟩ => at_le d (h2 v hv)
theorem at_eq {c : Code} {s' : St} (h : s = s') (g : AT P c s' K) : AT P c s K := by subst h; exact g

def loopL {σ : Type} (I : σ → St) (Φ : σ → Prop) (K : Exit → St → Prop) : Exit → St → Prop
  | .normal, s => ∃ v, Φ v ∧ Le s (I v)
  | e, s => K e s

theorem cl_loop {σ R : Type} {c : Code} (I : σ → St) (L : (σ → Option R) → σ → Option R) {q : R} (k0 : Nat) (v0 : σ) (hF : itr L k0 v0 = some q) (d0 : Le s (I v0))
    (round : ∀ (k : Nat) v, L (itr L k) v = some q → AT P c (I v) (loopL I (fun v => itr L k v = some q) K)) : AT P (.loop c) s K := by
  intro C w a hs
  obtain ⟨C0, h1, h2⟩ := d0 C w a hs
  intro b k cs
  have key : ∀ n v, itr L n v = some q → ∀ C w a, StRep C w a (I v) → ∃ e a' w', Post C w K e a' w' ∧ Arrives P (lone (b.at a (.code c :: .inLoop c :: k)) cs w) b k cs e a' w' := by
    intro n
    induction n with
    | zero => intro v hv; cases hv
    | succ n ih =>
      intro v hv C w a hs
      obtain ⟨e, a1, w1, hq, harr⟩ := round n v hv C w a hs b (.inLoop c :: k) cs
      cases e with
      | normal =>
        obtain ⟨C1, s1, g1, g2, v', gv, gd⟩ := hq
        obtain ⟨C2, e1, e2⟩ := gd C1 w1 a1 g1
        obtain ⟨e3, a2, w2, hq2, harr2⟩ := ih v' gv C2 w1 a1 e1
        exact ⟨e3, a2, w2, post_step (g2.trans e2) hq2, .of_steps (Steps.trans harr (.one step_inLoop)) harr2⟩
      | exit id => exact ⟨_, a1, w1, hq, .pass (x := .inLoop c) rfl (fun _ _ => .inl (by simp)) harr⟩
      | goto l => exact ⟨_, a1, w1, hq, .pass (x := .inLoop c) rfl (fun _ _ => .inl (by simp)) harr⟩
      | ret => exact ⟨_, a1, w1, hq, .pass (x := .inLoop c) rfl (fun _ _ => .inl (by simp)) harr⟩
      | panic ch => exact ⟨_, a1, w1, hq, .pass (x := .inLoop c) rfl (fun _ _ => .inl (by simp)) harr⟩
      | outgrown => exact ⟨_, a1, w1, hq, .pass (x := .inLoop c) rfl (fun _ _ => .inl (by simp)) harr⟩
  obtain ⟨e, a', w', hq, harr⟩ := key k0 v0 hF C0 w a h1
  exact ⟨e, a', w', post_step h2 hq, .of_steps (.one step_loop) harr⟩
end
end Go.Abs
