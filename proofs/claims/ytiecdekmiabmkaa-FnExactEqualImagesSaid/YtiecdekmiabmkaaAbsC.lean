/-
  What a step may change; new rows and written rows; the logic of straight code over abstract states.
-/
import Derived.Test.YtiecdekmiabmkaaAbsB
set_option linter.unusedVariables false
set_option linter.unusedSimpArgs false
namespace Go.Abs

def Own (C : Ctx) (b : Nat) : Prop := (∃ u L, C.loc u = some L ∧ L.blk = some b) ∨ (∃ l, 2 ≤ l ∧ C.lv l ∧ C.reg l b)

/-- The frame: memory that is not owned stays; what is owned behind it was owned or is new; region 0 is not grown, region 1 by what was owned or is new. -/
structure Fr (C C' : Ctx) (w w' : World) : Prop where
  size : w.heap.size ≤ w'.heap.size
  keep : ∀ b, b < w.heap.size → ¬ Own C b → w'.heap[b]? = w.heap[b]?
  own : ∀ b, Own C' b → Own C b ∨ w.heap.size ≤ b
  r0 : ∀ b, C'.reg 0 b → C.reg 0 b
  r1 : ∀ b, C'.reg 1 b → C.reg 1 b ∨ Own C b ∨ w.heap.size ≤ b
  os : w'.os = w.os
  out : w'.output = w.output
  low : ∀ u, u < 3 → ∀ L', C'.loc u = some L' → ∃ L, C.loc u = some L ∧ (L' = L ∨ L.n < L'.n)

theorem Fr.refl (C : Ctx) (w : World) : Fr C C w w := ⟨Nat.le_refl _, fun _ _ _ => rfl, fun _ h => .inl h, fun _ h => h, fun _ h => .inl h, rfl, rfl, fun _ _ L h => ⟨L, h, .inl rfl⟩⟩

theorem Fr.trans {C C1 C2 : Ctx} {w w1 w2 : World} (F : Fr C C1 w w1) (G : Fr C1 C2 w1 w2) : Fr C C2 w w2 where
  size := Nat.le_trans F.size G.size
  keep b hb ho := (G.keep b (Nat.lt_of_lt_of_le hb F.size) (fun h => (F.own b h).elim ho (fun h => by omega))).trans (F.keep b hb ho)
  own b h := by
    rcases G.own b h with h | h
    · exact F.own b h
    · exact .inr (Nat.le_trans F.size h)
  r0 b h := F.r0 b (G.r0 b h)
  r1 b h := by
    rcases G.r1 b h with h | h | h
    · exact F.r1 b h
    · rcases F.own b h with h | h
      · exact .inr (.inl h)
      · exact .inr (.inr h)
    · exact .inr (.inr (Nat.le_trans F.size h))
  os := G.os.trans F.os
  out := G.out.trans F.out
  low u hu L2 h2 := by
    obtain ⟨L1, h1, e1⟩ := G.low u hu L2 h2
    obtain ⟨L, h, e⟩ := F.low u hu L1 h1
    refine ⟨L, h, ?_⟩
    rcases e with rfl | e <;> rcases e1 with rfl | e1
    · exact .inl rfl
    · exact .inr e1
    · exact .inr e
    · exact .inr (by omega)

/-! ### A new row -/
def Ctx.set (C : Ctx) (u : Nat) (L : Loc) (nx : Nat) : Ctx := { C with loc := fun x => if x = u then some L else C.loc x, nx := nx }

/-- The cells of a row hold what the abstract rows say. -/
def RowsIn (C : Ctx) (w : World) (cs : Array Value) (sz : Nat) (rows : List (List V)) : Prop :=
  ∃ vals : Nat → List Value, ∀ i row, rows[i]? = some row → (vals i).length = sz ∧ (∀ j v, (vals i)[j]? = some v → cs[i * sz + j]? = some v) ∧ RepL C w (vals i) row

section
variable {P : Program} {T : List TI} {C : Ctx} {w : World} {h : List (Nat × HB)}

theorem ext_add (hs : HSt C w h) (o : Obj) (L : Loc) : Ext C (C.set C.nx L (C.nx + 1)) w (w.alloc o) where
  nx := Nat.le_succ _
  loc u L' hu h' := by
    simp only [Ctx.set] at h'
    rw [if_neg (by omega)] at h'
    exact ⟨L', h', .inl rfl⟩
  lv l _ h := h
  reg l b _ hl hb := ⟨hb, by
    have := hs.regs l b hl hb
    simp only [World.alloc, Array.getElem?_push]
    rw [if_neg (by omega)]⟩

theorem agree_alloc (w : World) (o : Obj) : Agree w (w.alloc o) :=
  ⟨by simp, fun b hb => by simp only [World.alloc, Array.getElem?_push]; rw [if_neg (by omega)], rfl, rfl⟩

theorem blk_lt {L : Loc} {rows : List (List V)} {b : Nat} (hb : Blk C w L rows) (h : L.blk = some b) : b < w.heap.size := by
  unfold Blk at hb
  rw [h] at hb
  obtain ⟨cs, el, fz, h1, _⟩ := hb
  rcases Nat.lt_or_ge b w.heap.size with h' | h'
  · exact h'
  · simp [Array.getElem?_eq_none h'] at h1

theorem blk_of {L : Loc} {rows : List (List V)} {b : Nat} (hb : L.blk = some b)
    (h : ∃ cs el fz, w.heap[b]? = some (.cells cs el fz) ∧ cs.size = L.cap * L.sz ∧ rows.length ≤ L.cap ∧ (∀ o, o < cs.size → ¬ (fz.1 ≤ o ∧ o < fz.2)) ∧ RepR C w b 0 L.sz rows) : Blk C w L rows := by
  unfold Blk; rw [hb]; exact h
theorem of_blk {L : Loc} {rows : List (List V)} {b : Nat} (hb : L.blk = some b) (h : Blk C w L rows) :
    ∃ cs el fz, w.heap[b]? = some (.cells cs el fz) ∧ cs.size = L.cap * L.sz ∧ rows.length ≤ L.cap ∧ (∀ o, o < cs.size → ¬ (fz.1 ≤ o ∧ o < fz.2)) ∧ RepR C w b 0 L.sz rows := by
  unfold Blk at h; rw [hb] at h; exact h

theorem RepR.mono {C' : Ctx} {w' : World} (E : Ext C C' w w') {b off sz : Nat} {rows : List (List V)} (hb : w'.heap[b]? = w.heap[b]?) (h : RepR C w b off sz rows) : RepR C' w' b off sz rows := by
  obtain ⟨vals, hv⟩ := h
  exact ⟨vals, fun i row hi => ⟨(hv i row hi).1, fun j v hj => by rw [cell_of_block hb]; exact (hv i row hi).2.1 j v hj, RepL.mono E (hv i row hi).2.2⟩⟩

theorem Blk.mono {C' : Ctx} {w' : World} (E : Ext C C' w w') {L : Loc} {rows : List (List V)} (hb : ∀ b, L.blk = some b → w'.heap[b]? = w.heap[b]?) (h : Blk C w L rows) : Blk C' w' L rows := by
  unfold Blk at *
  split
  · rename_i hn; rw [hn] at h; exact h
  · rename_i b hn
    rw [hn] at h
    obtain ⟨cs, el, fz, h1, h2, h3, h4, h5⟩ := h
    exact ⟨cs, el, fz, by rw [hb b hn]; exact h1, h2, h3, h4, h5.mono E (hb b hn)⟩

theorem repR_of_in {cs : Array Value} {el : TypeId} {fz : Nat × Nat} {b sz : Nat} {rows : List (List V)} (hb : w.heap[b]? = some (.cells cs el fz)) (h : RowsIn C w cs sz rows) : RepR C w b 0 sz rows := by
  obtain ⟨vals, hv⟩ := h
  refine ⟨vals, fun i row hi => ⟨(hv i row hi).1, fun j v hj => ?_, (hv i row hi).2.2⟩⟩
  have := (hv i row hi).2.1 j v hj
  simp [World.cell?, hb, this]

theorem in_of_repR {cs : Array Value} {el : TypeId} {fz : Nat × Nat} {b sz : Nat} {rows : List (List V)} (hb : w.heap[b]? = some (.cells cs el fz)) (h : RepR C w b 0 sz rows) : RowsIn C w cs sz rows := by
  obtain ⟨vals, hv⟩ := h
  refine ⟨vals, fun i row hi => ⟨(hv i row hi).1, fun j v hj => ?_, (hv i row hi).2.2⟩⟩
  have := (hv i row hi).2.1 j v hj
  simpa [World.cell?, hb] using this

theorem RowsIn.mono {C' : Ctx} {w' : World} (E : Ext C C' w w') {cs : Array Value} {sz : Nat} {rows : List (List V)} (h : RowsIn C w cs sz rows) : RowsIn C' w' cs sz rows := by
  obtain ⟨vals, hv⟩ := h
  exact ⟨vals, fun i row hi => ⟨(hv i row hi).1, (hv i row hi).2.1, RepL.mono E (hv i row hi).2.2⟩⟩

/-- A NEW ROW. -/
theorem HSt.alloc (hs : HSt C w h) {cs : Array Value} {el : TypeId} {sz cap : Nat} {rows : List (List V)} (hcs : cs.size = cap * sz) (hle : rows.length ≤ cap) (hin : RowsIn C w cs sz rows) :
    HSt (C.set C.nx ⟨some w.heap.size, sz, rows.length, cap⟩ (C.nx + 1)) (w.alloc (.cells cs el)) ((C.nx, ⟨sz, rows⟩) :: h) := by
  have E := ext_add hs (.cells cs el) ⟨some w.heap.size, sz, rows.length, cap⟩
  have hold : ∀ b, b < w.heap.size → (w.alloc (.cells cs el)).heap[b]? = w.heap[b]? := (agree_alloc w _).2
  have hnone : ∀ L, C.loc C.nx = some L → False := fun L hL => Nat.lt_irrefl _ (hs.lt _ L hL)
  refine ⟨fun u hu => ?_, fun u hb hu => ?_, fun u L hL => ?_, fun u u' L L' b h1 h2 h3 h4 => ?_, fun u L b l h1 h2 h3 h4 => ?_, fun l b h1 h2 => ?_, fun l hl => ?_, hs.rdis, hs.zero, Nat.lt_succ_of_lt hs.two⟩
  · simp only [hget, Ctx.set] at hu ⊢
    rw [Bool.cond_eq_ite] at hu
    split at hu
    · simp at hu
    · rename_i hne
      rw [Nat.beq_eq] at hne
      rw [if_neg hne]
      exact hs.dom u hu
  · simp only [hget] at hu
    rw [Bool.cond_eq_ite] at hu
    split at hu
    · rename_i he
      rw [Nat.beq_eq] at he
      simp only [Option.some.injEq] at hu
      subst hu; subst he
      refine ⟨⟨some w.heap.size, sz, rows.length, cap⟩, by simp [Ctx.set], rfl, rfl, ?_⟩
      have hb : (w.alloc (.cells cs el)).heap[w.heap.size]? = some (.cells cs el (0, 0)) := by simp only [World.alloc, Array.getElem?_push_size]
      exact ⟨cs, el, (0, 0), hb, hcs, hle, fun o _ => by simp, repR_of_in hb (hin.mono E)⟩
    · rename_i hne
      rw [Nat.beq_eq] at hne
      obtain ⟨L, h1, h2, h3, h4⟩ := hs.ent u hb hu
      exact ⟨L, by simp [Ctx.set, hne, h1], h2, h3, h4.mono E (fun b hb => hold b (blk_lt h4 hb))⟩
  · simp only [Ctx.set] at hL ⊢
    split at hL
    · omega
    · have := hs.lt u L hL; omega
  · have old : ∀ u L b, C.loc u = some L → L.blk = some b → b < w.heap.size := fun u L b h1 h2 => by
      cases hg : hget h u with
      | none => rw [hs.dom u hg] at h1; simp at h1
      | some hb => obtain ⟨L2, e1, _, _, e4⟩ := hs.ent u hb hg; rw [h1] at e1; simp at e1; subst e1; exact blk_lt e4 h2
    simp only [Ctx.set] at h1 h2
    split at h1 <;> split at h2
    · omega
    · simp only [Option.some.injEq] at h1; subst h1; simp at h3; have := old u' L' b h2 h4; omega
    · simp only [Option.some.injEq] at h2; subst h2; simp at h4; have := old u L b h1 h3; omega
    · exact hs.inj u u' L L' b h1 h2 h3 h4
  · simp only [Ctx.set] at h1 h3 h4
    split at h1
    · simp only [Option.some.injEq] at h1; subst h1; simp at h2
      have := hs.regs l b h3 h4
      omega
    · exact hs.own u L b l h1 h2 h3 h4
  · have := hs.regs l b h1 h2
    simp; omega
  · have := hs.lvs l hl
    simp only [Ctx.set]; omega

theorem fr_add (o : Obj) {L : Loc} (hb : L.blk = some w.heap.size) (h2 : 2 < C.nx) : Fr C (C.set C.nx L (C.nx + 1)) w (w.alloc o) where
  size := by simp
  keep b hb' _ := (agree_alloc w o).2 b hb'
  own b ho := by
    rcases ho with ⟨u, L', h1, h2⟩ | ⟨l, h1, h2, h3⟩
    · simp only [Ctx.set] at h1
      split at h1
      · simp only [Option.some.injEq] at h1; subst h1; rw [hb] at h2; simp at h2; exact .inr (by omega)
      · exact .inl (.inl ⟨u, L', h1, h2⟩)
    · exact .inl (.inr ⟨l, h1, h2, h3⟩)
  r0 b h := h
  r1 b h := .inl h
  os := rfl
  out := rfl
  low u hu L' h := by
    simp only [Ctx.set] at h
    rw [if_neg (by omega)] at h
    exact ⟨L', h, .inl rfl⟩

/-- A WRITTEN ROW: its block holds other cells, no more of them; all else stands. -/
theorem HSt.write (hs : HSt C w h) {w' : World} {u b : Nat} {L : Loc} {cs : Array Value} {el : TypeId} {fz : Nat × Nat} {rows : List (List V)}
    (hL : C.loc u = some L) (hb : L.blk = some b) (hos : w'.os = w.os) (hout : w'.output = w.output) (hsz : w'.heap.size = w.heap.size) (hoth : ∀ c, c ≠ b → w'.heap[c]? = w.heap[c]?)
    (hnew : w'.heap[b]? = some (.cells cs el fz)) (hcs : cs.size = L.cap * L.sz) (hfz : ∀ o, o < cs.size → ¬ (fz.1 ≤ o ∧ o < fz.2)) (hle : rows.length ≤ L.cap)
    (hn : L.n = rows.length ∨ L.n < rows.length) (hin : ∀ C' w', Ext C C' w w' → RowsIn C' w' cs L.sz rows) :
    HSt (C.set u { L with n := rows.length } C.nx) w' ((u, ⟨L.sz, rows⟩) :: h) ∧ Ext C (C.set u { L with n := rows.length } C.nx) w w' ∧ Fr C (C.set u { L with n := rows.length } C.nx) w w' := by
  have E : Ext C (C.set u { L with n := rows.length } C.nx) w w' := by
    refine ⟨Nat.le_refl _, fun x L' hx h' => ?_, fun l _ h => h, fun l c _ hl hc => ⟨hc, hoth c (fun e => ?_)⟩⟩
    · simp only [Ctx.set] at h'
      split at h'
      · rename_i hxu
        subst hxu
        simp only [Option.some.injEq] at h'
        subst h'
        refine ⟨L, hL, ?_⟩
        rcases hn with hn | hn
        · exact .inl (by rw [← hn])
        · exact .inr hn
      · exact ⟨L', h', .inl rfl⟩
    · exact hs.own u L b l hL hb hl (by subst e; exact hc)
  have hloc : ∀ x M c, (C.set u { L with n := rows.length } C.nx).loc x = some M → M.blk = some c → ∃ M', C.loc x = some M' ∧ M'.blk = some c := fun x M c h1 h2 => by
    simp only [Ctx.set] at h1
    split at h1
    · rename_i hxu; subst hxu; simp only [Option.some.injEq] at h1; subst h1; exact ⟨L, hL, h2⟩
    · exact ⟨M, h1, h2⟩
  refine ⟨⟨fun x hx => ?_, fun x hbk hx => ?_, fun x M hM => ?_, fun x x' M M' c h1 h2 h3 h4 => ?_, fun x M c l h1 h2 h3 h4 => ?_, fun l c h1 h2 => ?_, hs.lvs, hs.rdis, hs.zero, hs.two⟩, E, ?_⟩
  · simp only [hget] at hx
    rw [Bool.cond_eq_ite] at hx
    split at hx
    · simp at hx
    · rename_i hne
      rw [Nat.beq_eq] at hne
      simp only [Ctx.set]
      rw [if_neg hne]
      exact hs.dom x hx
  · simp only [hget] at hx
    rw [Bool.cond_eq_ite] at hx
    split at hx
    · rename_i he
      rw [Nat.beq_eq] at he
      simp only [Option.some.injEq] at hx
      subst hx; subst he
      refine ⟨{ L with n := rows.length }, by simp [Ctx.set], rfl, rfl, ?_⟩
      exact blk_of hb ⟨cs, el, fz, hnew, hcs, hle, hfz, repR_of_in hnew (hin _ _ E)⟩
    · rename_i hne
      rw [Nat.beq_eq] at hne
      obtain ⟨M, h1, h2, h3, h4⟩ := hs.ent x hbk hx
      refine ⟨M, by simp [Ctx.set, hne, h1], h2, h3, h4.mono E (fun c hc => hoth c (fun e => hne ?_))⟩
      subst e
      exact hs.inj x u M L c h1 hL hc hb
  · simp only [Ctx.set] at hM ⊢
    split at hM
    · rename_i hxu; subst hxu; exact hs.lt _ L hL
    · exact hs.lt x M hM
  · obtain ⟨N, n1, n2⟩ := hloc x M c h1 h3
    obtain ⟨N', n3, n4⟩ := hloc x' M' c h2 h4
    exact hs.inj x x' N N' c n1 n3 n2 n4
  · obtain ⟨N, n1, n2⟩ := hloc x M c h1 h2
    exact hs.own x N c l n1 n2 h3 h4
  · rw [hsz]; exact hs.regs l c h1 h2
  · have ho : ∀ c, Own (C.set u { L with n := rows.length } C.nx) c → Own C c := fun c hc => by
      rcases hc with ⟨x, M, h1, h2⟩ | hc
      · obtain ⟨N, n1, n2⟩ := hloc x M c h1 h2
        exact .inl ⟨x, N, n1, n2⟩
      · exact .inr hc
    refine ⟨by omega, fun c _ hc => hoth c (fun e => hc (.inl ⟨u, L, hL, by rw [e]; exact hb⟩)), fun c hc => .inl (ho c hc), fun c hc => hc, fun c hc => .inl hc, hos, hout, fun x _ L' h' => ?_⟩
    simp only [Ctx.set] at h'
    split at h'
    · rename_i hxu
      subst hxu
      simp only [Option.some.injEq] at h'
      subst h'
      refine ⟨L, hL, ?_⟩
      rcases hn with hn | hn
      · exact .inl (by rw [← hn])
      · exact .inr hn
    · exact ⟨L', h', .inl rfl⟩

end
end Go.Abs
