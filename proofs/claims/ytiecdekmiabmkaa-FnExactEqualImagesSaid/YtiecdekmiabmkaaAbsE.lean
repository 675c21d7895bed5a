/-
  Relabelling; code; functions; calls of functions that leave what is there as it was.
-/
import Derived.Test.YtiecdekmiabmkaaAbsD
set_option linter.unusedVariables false
set_option linter.unusedSimpArgs false
namespace Go.Abs

mutual
/-- The regions' names changed; what points into the call's own memory forgotten. -/
def V.rl (f : Nat → Nat) : V → V
  | .agg cs => .agg (V.rlL f cs)
  | .tup cs => .tup (V.rlL f cs)
  | .psl l sz rows => .psl (f l) sz (V.rlR f rows)
  | .pptr l sz rows i off => .pptr (f l) sz (V.rlR f rows) i off
  | .hsl _ _ _ => .junk
  | .ptr _ _ _ _ => .junk
  | .int k n => .int k n
  | .bool b => .bool b
  | .str s => .str s
  | .nilsl => .nilsl
  | .nilp => .nilp
  | .fn g => .fn g
  | .junk => .junk
def V.rlL (f : Nat → Nat) : List V → List V
  | [] => []
  | x :: xs => V.rl f x :: V.rlL f xs
def V.rlR (f : Nat → Nat) : List (List V) → List (List V)
  | [] => []
  | x :: xs => V.rlL f x :: V.rlR f xs
end

theorem rlL_eq (f : Nat → Nat) : ∀ l : List V, V.rlL f l = l.map (V.rl f)
  | [] => rfl
  | x :: xs => by simp [V.rlL, rlL_eq f xs]
theorem rlR_eq (f : Nat → Nat) : ∀ l : List (List V), V.rlR f l = l.map (List.map (V.rl f))
  | [] => rfl
  | x :: xs => by simp [V.rlR, rlR_eq f xs, rlL_eq]

structure Rl (f : Nat → Nat) (C C' : Ctx) (w w' : World) : Prop where
  lt : ∀ l, l < C.nx → f l < C'.nx
  lv : ∀ l, l < C.nx → C'.lv (f l) → C.lv l
  reg : ∀ l b, l < C.nx → C'.lv (f l) → C.reg l b → C'.reg (f l) b ∧ w'.heap[b]? = w.heap[b]?

theorem rlR_get (f : Nat → Nat) (rows : List (List V)) (i : Nat) (row : List V) (h : (V.rlR f rows)[i]? = some row) : ∃ r, rows[i]? = some r ∧ row = V.rlL f r := by
  rw [rlR_eq, List.getElem?_map] at h
  cases hr : rows[i]? with
  | none => simp [hr] at h
  | some r => simp [hr] at h; exact ⟨r, rfl, by rw [rlL_eq]; exact h.symm⟩

mutual
theorem Rep.rl {f : Nat → Nat} {C C' : Ctx} {w w' : World} (E : Rl f C C' w w') : ∀ {v : Value} {x : V}, Rep C w v x → Rep C' w' v (x.rl f)
  | _, _, .int k n => .int k n
  | _, _, .bool b => .bool b
  | _, _, .str s => .str s
  | _, _, .agg h => .agg (RepL.rl E h)
  | _, _, .tup h => .tup (RepL.rl E h)
  | _, _, .psl0 a c l s => .psl0 a c (f l) s
  | _, _, .psl (l := l) (b := b) vals hl hn hb hlen hcap hc hr => by
    by_cases h : C'.lv (f l)
    · have e := E.reg l b hn h hb
      refine .psl vals h (E.lt l hn) e.1 (by rw [rlR_eq]; simpa using hlen) hcap (fun i row hi => ?_) (fun i row hi => ?_)
      · obtain ⟨r, h1, _⟩ := rlR_get f _ i row hi
        exact ⟨(hc i r h1).1, fun j v hj => by rw [cell_of_block e.2]; exact (hc i r h1).2 j v hj⟩
      · obtain ⟨r, h1, h2⟩ := rlR_get f _ i row hi
        rw [h2]
        exact RepL.rl E (hr i r h1)
    · exact .psld _ h (E.lt l hn)
  | _, _, .psld (l := l) v hl hn => .psld v (fun h => hl (E.lv l hn h)) (E.lt l hn)
  | _, _, .hsl _ _ => .junk _
  | _, _, .nilsl => .nilsl
  | _, _, .ptr _ _ => .junk _
  | _, _, .pptr (l := l) (b := b) vals hl hn hb hc hr => by
    by_cases h : C'.lv (f l)
    · have e := E.reg l b hn h hb
      refine .pptr vals h (E.lt l hn) e.1 (fun i row hi => ?_) (fun i row hi => ?_)
      · obtain ⟨r, h1, _⟩ := rlR_get f _ i row hi
        exact ⟨(hc i r h1).1, fun j v hj => by rw [cell_of_block e.2]; exact (hc i r h1).2 j v hj⟩
      · obtain ⟨r, h1, h2⟩ := rlR_get f _ i row hi
        rw [h2]
        exact RepL.rl E (hr i r h1)
    · exact .pptrd _ h (E.lt l hn)
  | _, _, .pptrd (l := l) v hl hn => .pptrd v (fun h => hl (E.lv l hn h)) (E.lt l hn)
  | _, _, .nilp => .nilp
  | _, _, .fn g => .fn g
  | _, _, .junk v => .junk v
theorem RepL.rl {f : Nat → Nat} {C C' : Ctx} {w w' : World} (E : Rl f C C' w w') : ∀ {vs : List Value} {xs : List V}, RepL C w vs xs → RepL C' w' vs (V.rlL f xs)
  | _, _, .nil => .nil
  | _, _, .cons h t => .cons (Rep.rl E h) (RepL.rl E t)
end

/-! ### Code -/
def Post (C : Ctx) (w : World) (K : Exit → St → Prop) : Exit → Act → World → Prop :=
  fun e a' w' => ∃ C' s', StRep C' w' a' s' ∧ Fr C C' w w' ∧ K e s'

def AT (P : Program) (c : Code) (s : St) (K : Exit → St → Prop) : Prop := ∀ C w a, StRep C w a s → c.wp P (Post C w K) a w

def thenK (N : St → Prop) (K : Exit → St → Prop) : Exit → St → Prop
  | .normal, s => N s
  | e, s => K e s
def blockK (id : Nat) (K : Exit → St → Prop) : Exit → St → Prop
  | .exit i, s => if i = id then K .normal s else K (.exit i) s
  | e, s => K e s

/-- A value that is the same under no others than the first numbers: nothing behind n. -/
def cut2 (l : Nat) : Nat := bif Nat.ble l 1 then l else 2
def Ok (n : Nat) (x : V) : Prop :=
  match x with
  | .hsl u _ _ => u < n
  | .ptr u _ _ _ => u < n
  | x => x.rl cut2 = x
def EnvLe (s : St) (n : Nat) : List (Nat × V) → Prop
  | [] => True
  | p :: r => (eget s.env p.1 = p.2 ∧ Ok n p.2) ∧ EnvLe s n r
def RowOk (n : Nat) : List V → Prop
  | [] => True
  | x :: r => Ok n x ∧ RowOk n r
def HeapLe (s : St) (n : Nat) : List (Nat × HB) → Prop
  | [] => True
  | p :: r => (hget s.heap p.1 = some p.2 ∧ p.1 < n ∧ ∀ row ∈ p.2.rows, RowOk n row) ∧ HeapLe s n r
/-- A state tells less than another: fewer slots, fewer rows, numbers given back. -/
structure Down (s s' : St) : Prop where
  env : EnvLe s s'.nx s'.env
  heap : HeapLe s s'.nx s'.heap
  nx : s'.nx ≤ s.nx
  two : 2 < s'.nx
  n : s'.n = s.n
  lv : ∀ l ∈ s'.lv, l ∈ s.lv ∧ l < s'.nx

section
variable {P : Program} {s : St} {K : Exit → St → Prop}

theorem envLe_get {n : Nat} : ∀ {l : List (Nat × V)}, EnvLe s n l → ∀ i, eget l i = .junk ∨ (eget l i = eget s.env i ∧ Ok n (eget l i))
  | [], _, i => .inl rfl
  | p :: r, h, i => by
    simp only [eget]
    rw [Bool.cond_eq_ite]
    split
    · rename_i hi
      rw [Nat.beq_eq] at hi
      subst hi
      exact .inr ⟨h.1.1.symm, h.1.2⟩
    · exact envLe_get h.2 i

theorem heapLe_get {n : Nat} : ∀ {l : List (Nat × HB)}, HeapLe s n l → ∀ u hb, hget l u = some hb → hget s.heap u = some hb ∧ u < n ∧ ∀ row ∈ hb.rows, RowOk n row
  | [], _, u, hb, h => by simp [hget] at h
  | p :: r, hl, u, hb, h => by
    simp only [hget] at h
    rw [Bool.cond_eq_ite] at h
    split at h
    · rename_i hi
      rw [Nat.beq_eq] at hi
      subst hi
      simp only [Option.some.injEq] at h
      subst h
      exact hl.1
    · exact heapLe_get hl.2 u hb h

def Ctx.cut (C : Ctx) (s' : St) : Ctx :=
  { reg := C.reg, lv := fun l => C.lv l ∧ l < s'.nx, loc := fun u => if (hget s'.heap u).isSome then C.loc u else none, nx := s'.nx }

theorem ok_rep {C : Ctx} {w : World} {s' : St} (hs : HSt C w s.heap) (h2 : 2 < s'.nx) (hnx : s'.nx ≤ C.nx) {v : Value} {x : V} (h : Rep C w v x) (ho : Ok s'.nx x) : Rep (C.cut s') w v x := by
  have key : x.rl cut2 = x → Rep (C.cut s') w v x := fun e => by
    rw [← e]
    have hc : ∀ l, (l ≤ 1 ∧ cut2 l = l) ∨ cut2 l = 2 := fun l => by
      unfold cut2
      rw [Bool.cond_eq_ite]
      split
      · rename_i h; rw [Nat.ble_eq] at h; exact .inl ⟨h, rfl⟩
      · exact .inr rfl
    refine Rep.rl (C := C) ⟨fun l _ => ?_, fun l _ h => ?_, fun l b _ h hb => ⟨?_, rfl⟩⟩ h
    · show cut2 l < s'.nx
      rcases hc l with ⟨h, e⟩ | e <;> omega
    · rcases hc l with ⟨_, e⟩ | e
      · rw [e] at h; exact h.1
      · rw [e] at h; exact absurd h.1 hs.zero.2.2
    · rcases hc l with ⟨_, e⟩ | e
      · rw [e]; exact hb
      · rw [e] at h; exact absurd h.1 hs.zero.2.2
  unfold Ok at ho
  split at ho
  · cases h with
    | hsl hu hall =>
      refine .hsl ho fun L hL => ?_
      simp only [Ctx.cut] at hL
      split at hL
      · exact hall L hL
      · simp at hL
  · cases h with
    | ptr hu hall =>
      refine .ptr ho fun L hL => ?_
      simp only [Ctx.cut] at hL
      split at hL
      · exact hall L hL
      · simp at hL
  · exact key ho

theorem okL_rep {C : Ctx} {w : World} {s' : St} (hs : HSt C w s.heap) (h2 : 2 < s'.nx) (hnx : s'.nx ≤ C.nx) : ∀ {vs : List Value} {xs : List V}, RepL C w vs xs → RowOk s'.nx xs → RepL (C.cut s') w vs xs
  | _, _, .nil, _ => .nil
  | _, _, .cons h t, ho => .cons (ok_rep hs h2 hnx h ho.1) (okL_rep hs h2 hnx t ho.2)

theorem Down.rep {C : Ctx} {w : World} {a : Act} {s' : St} (d : Down s s') (hs : StRep C w a s) : StRep (C.cut s') w a s' ∧ Fr C (C.cut s') w w := by
  have hloc : ∀ u L, (C.cut s').loc u = some L → C.loc u = some L ∧ (hget s'.heap u).isSome = true := fun u L h => by
    simp only [Ctx.cut] at h
    split at h
    · exact ⟨h, by assumption⟩
    · simp at h
  have hnx : s'.nx ≤ C.nx := by rw [hs.nx]; exact d.nx
  refine ⟨⟨hs.defers, by rw [hs.size, d.n], rfl, fun i => ?_, ⟨fun u hu => ?_, fun u hb hu => ?_, fun u L hL => ?_, fun u u' L L' b h1 h2 => ?_, fun u L b l h1 h2 h3 => ?_, fun l b h => ?_, fun l h => ?_, fun l l' b h h' => ?_, ?_, d.two⟩, fun l hl => ?_⟩, ?_⟩
  · rcases envLe_get d.env i with h | ⟨h1, h2⟩
    · rw [h]; exact .junk _
    · have := hs.env i
      rw [← h1] at this
      exact ok_rep hs.heap d.two hnx this h2
  · simp [Ctx.cut, hu]
  · obtain ⟨h1, h2, h3⟩ := heapLe_get d.heap u hb hu
    obtain ⟨L, e1, e2, e3, e4⟩ := hs.heap.ent u hb h1
    refine ⟨L, by simp [Ctx.cut, hu, e1], e2, e3, ?_⟩
    unfold Blk at e4 ⊢
    split
    · rename_i hn; rw [hn] at e4; exact e4
    · rename_i b hn
      rw [hn] at e4
      obtain ⟨cs, el, fz, g1, g2, g3, g4, vals, g5⟩ := e4
      exact ⟨cs, el, fz, g1, g2, g3, g4, vals, fun i row hi => ⟨(g5 i row hi).1, (g5 i row hi).2.1, okL_rep hs.heap d.two hnx (g5 i row hi).2.2 (h3 row (List.mem_of_getElem? hi))⟩⟩
  · obtain ⟨h1, h2⟩ := hloc u L hL
    obtain ⟨hb, hbe⟩ := Option.isSome_iff_exists.1 h2
    exact (heapLe_get d.heap u hb hbe).2.1
  · exact hs.heap.inj u u' L L' b (hloc u L h1).1 (hloc u' L' h2).1
  · exact hs.heap.own u L b l (hloc u L h1).1 h2 h3.1
  · exact hs.heap.regs l b h.1
  · exact h.2
  · exact hs.heap.rdis l l' b h.1 h'.1
  · have := d.two
    exact ⟨⟨hs.heap.zero.1, by show 0 < s'.nx; omega⟩, ⟨hs.heap.zero.2.1, by show 1 < s'.nx; omega⟩, fun h => hs.heap.zero.2.2 h.1⟩
  · exact ⟨hs.lv l (d.lv l hl).1, (d.lv l hl).2⟩
  · refine ⟨Nat.le_refl _, fun _ _ _ => rfl, fun b h => ?_, fun b h => h, fun b h => .inl h, rfl, rfl, fun u _ L' h => ⟨L', (hloc u L' h).1, .inl rfl⟩⟩
    rcases h with ⟨u, L, h1, h2⟩ | ⟨l, h1, h2, h3⟩
    · exact .inl (.inl ⟨u, L, (hloc u L h1).1, h2⟩)
    · exact .inl (.inr ⟨l, h1, h2.1, h3⟩)

theorem post_step {C C' : Ctx} {w w' : World} (F : Fr C C' w w') {e : Exit} {a : Act} {w2 : World} (h : Post C' w' K e a w2) : Post C w K e a w2 := by
  obtain ⟨C2, s2, h1, h3, h4⟩ := h
  exact ⟨C2, s2, h1, F.trans h3, h4⟩

theorem at_down {c : Code} {s' : St} (d : Down s s') (h : AT P c s' K) : AT P c s K := by
  intro C w a hs
  obtain ⟨h1, h2⟩ := d.rep hs
  exact wp_mono (h _ w a h1) (fun e a w q => post_step h2 q)

theorem at_seq {x y : Code} (h : AT P x s (thenK (fun s' => AT P y s' K) K)) : AT P (.seq x y) s K := by
  intro C w a hs
  refine wp_seq (wp_mono (h C w a hs) ?_)
  rintro e a' w' ⟨C', s', h1, h3, h4⟩
  cases e with
  | normal => exact wp_mono (h4 C' w' a' h1) (fun e a w q => post_step h3 q)
  | _ => exact ⟨C', s', h1, h3, h4⟩

theorem at_region {id : Nat} {l : List Oper} (h : AOps P ⟨l⟩ l s (fun s' => K .normal s')) : AT P (.region id ⟨l⟩ false) s K := by
  intro C w a hs
  exact wp_region_list (h C w a _ hs (fun C' w' a' s' h1 h3 h4 => ⟨C', s', h1, h3, h4⟩))

theorem at_skip (h : K .normal s) : AT P .skip s K := fun C _ _ hs => wp_skip ⟨C, s, hs, Fr.refl _ _, h⟩
theorem at_ret (h : K .ret s) : AT P .ret s K := fun C _ _ hs => wp_ret ⟨C, s, hs, Fr.refl _ _, h⟩
theorem at_exit {id : Nat} (h : K (.exit id) s) : AT P (.exit id) s K := fun C _ _ hs => wp_exit ⟨C, s, hs, Fr.refl _ _, h⟩

theorem at_cond {c : Operand} {x y : Code} {t : Bool} (hc : ev s c = .bool t) (ht : t = true → AT P x s K) (hf : t = false → AT P y s K) : AT P (.cond c x y) s K := by
  intro C w a hs
  have hv := hs.ev c
  rw [hc] at hv
  generalize hv' : a.eval c = v at hv
  cases hv
  exact wp_cond_split hv' (fun h => ht h C w a hs) (fun h => hf h C w a hs)

theorem at_block {id : Nat} {c : Code} (h : AT P c s (blockK id K)) : AT P (.block id c) s K := by
  intro C w a hs
  refine wp_block (wp_mono (h C w a hs) ?_)
  rintro e a' w' ⟨C', s', h1, h3, h4⟩
  cases e with
  | exit i =>
    simp only [blockK] at h4
    simp only [Exit.inBlock]
    split
    · rename_i hi; rw [if_pos hi] at h4; exact ⟨C', s', h1, h3, h4⟩
    · rename_i hi; rw [if_neg hi] at h4; exact ⟨C', s', h1, h3, h4⟩
  | _ => exact ⟨C', s', h1, h3, h4⟩

def loopK {α : Type} (I : α → St) (ok : α → Prop) (μ : α → Nat) (x : α) (K : Exit → St → Prop) : Exit → St → Prop
  | .normal, s => ∃ y, ok y ∧ μ y < μ x ∧ Down s (I y)
  | e, s => K e s

/-- A LOOP: its states are 'I x' for x that are ok; each round leads to another, of less measure, or out. -/
theorem at_loop {α : Type} {c : Code} (I : α → St) (ok : α → Prop) (μ : α → Nat) (x0 : α) (d0 : Down s (I x0)) (h0 : ok x0) (round : ∀ x, ok x → AT P c (I x) (loopK I ok μ x K)) : AT P (.loop c) s K := by
  intro C w a hs
  obtain ⟨h1, h2⟩ := d0.rep hs
  intro b k cs
  have key : ∀ n x, μ x = n → ok x → ∀ C w a, StRep C w a (I x) → ∃ e a' w', Post C w K e a' w' ∧ Arrives P (lone (b.at a (.code c :: .inLoop c :: k)) cs w) b k cs e a' w' := by
    intro n
    induction n using Nat.strongRecOn with
    | _ n ih =>
      intro x hn hok C w a hs
      obtain ⟨e, a1, w1, hq, harr⟩ := round x hok C w a hs b (.inLoop c :: k) cs
      cases e with
      | normal =>
        obtain ⟨C1, s1, g1, g2, y, gy, gm, gd⟩ := hq
        obtain ⟨e1, e2⟩ := gd.rep g1
        obtain ⟨e3, a2, w2, hq2, harr2⟩ := ih (μ y) (hn ▸ gm) y rfl gy _ w1 a1 e1
        exact ⟨e3, a2, w2, post_step (g2.trans e2) hq2, .of_steps (Steps.trans harr (.one step_inLoop)) harr2⟩
      | exit id => exact ⟨_, a1, w1, hq, .pass (x := .inLoop c) rfl (fun _ _ => .inl (by simp)) harr⟩
      | goto l => exact ⟨_, a1, w1, hq, .pass (x := .inLoop c) rfl (fun _ _ => .inl (by simp)) harr⟩
      | ret => exact ⟨_, a1, w1, hq, .pass (x := .inLoop c) rfl (fun _ _ => .inl (by simp)) harr⟩
      | panic ch => exact ⟨_, a1, w1, hq, .pass (x := .inLoop c) rfl (fun _ _ => .inl (by simp)) harr⟩
      | outgrown => exact ⟨_, a1, w1, hq, .pass (x := .inLoop c) rfl (fun _ _ => .inl (by simp)) harr⟩
  obtain ⟨e, a', w', hq, harr⟩ := key _ x0 rfl h0 _ w a h1
  exact ⟨e, a', w', post_step h2 hq, .of_steps (.one step_loop) harr⟩

end
end Go.Abs
