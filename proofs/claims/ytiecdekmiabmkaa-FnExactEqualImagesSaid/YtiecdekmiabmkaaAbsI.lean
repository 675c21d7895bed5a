/-
  Slices made, grown, handed back; structs and slices written out.
-/
import Derived.Test.YtiecdekmiabmkaaAbsH
set_option linter.unusedVariables false
set_option linter.unusedSimpArgs false
namespace Go.Abs

section
variable {P : Program} {T : List TI} {C : Ctx} {w : World} {h : List (Nat × HB)}

theorem loc_lt (hs : HSt C w h) {u : Nat} {L : Loc} {b : Nat} (h1 : C.loc u = some L) (h2 : L.blk = some b) : b < w.heap.size := by
  cases hg : hget h u with
  | none => rw [hs.dom u hg] at h1; simp at h1
  | some hb => obtain ⟨L2, e1, _, _, e4⟩ := hs.ent u hb hg; rw [h1] at e1; simp at e1; subst e1; exact blk_lt e4 h2

/-- A row that has moved to new memory, and is longer. -/
theorem HSt.regrow (hs : HSt C w h) {u : Nat} {L : Loc} {cs : Array Value} {el : TypeId} {cap : Nat} {rows : List (List V)} (hL : C.loc u = some L) (hgt : L.n < rows.length) (hcs : cs.size = cap * L.sz) (hle : rows.length ≤ cap) (hin : RowsIn C w cs L.sz rows) :
    HSt (C.set u ⟨some w.heap.size, L.sz, rows.length, cap⟩ C.nx) (w.alloc (.cells cs el)) ((u, ⟨L.sz, rows⟩) :: h) ∧ Fr C (C.set u ⟨some w.heap.size, L.sz, rows.length, cap⟩ C.nx) w (w.alloc (.cells cs el)) ∧
      Ext C (C.set u ⟨some w.heap.size, L.sz, rows.length, cap⟩ C.nx) w (w.alloc (.cells cs el)) := by
  have hold : ∀ b, b < w.heap.size → (w.alloc (.cells cs el)).heap[b]? = w.heap[b]? := (agree_alloc w _).2
  have E : Ext C (C.set u ⟨some w.heap.size, L.sz, rows.length, cap⟩ C.nx) w (w.alloc (.cells cs el)) := by
    refine ⟨Nat.le_refl _, fun x L' hx h' => ?_, fun l _ h => h, fun l c _ hl hc => ⟨hc, hold c (hs.regs l c hl hc)⟩⟩
    simp only [Ctx.set] at h'
    split at h'
    · rename_i hxu
      subst hxu
      simp only [Option.some.injEq] at h'
      subst h'
      exact ⟨L, hL, .inr hgt⟩
    · exact ⟨L', h', .inl rfl⟩
  refine ⟨⟨fun x hx => ?_, fun x hbk hx => ?_, fun x M hM => ?_, fun x x' M M' c h1 h2 h3 h4 => ?_, fun x M c l h1 h2 h3 h4 => ?_, fun l c h1 h2 => ?_, hs.lvs, hs.rdis, hs.zero, hs.two⟩, ?_, E⟩
  · simp only [hget] at hx
    rw [Bool.cond_eq_ite] at hx
    split at hx
    · simp at hx
    · rename_i hne
      rw [Nat.beq_eq] at hne
      simp only [Ctx.set]
      rw [if_neg hne]
      exact hs.dom x hx
  · simp only [hget] at hx
    rw [Bool.cond_eq_ite] at hx
    split at hx
    · rename_i he
      rw [Nat.beq_eq] at he
      simp only [Option.some.injEq] at hx
      subst hx; subst he
      have hb : (w.alloc (.cells cs el)).heap[w.heap.size]? = some (.cells cs el (0, 0)) := by simp only [World.alloc, Array.getElem?_push_size]
      exact ⟨⟨some w.heap.size, L.sz, rows.length, cap⟩, by simp [Ctx.set], rfl, rfl, cs, el, (0, 0), hb, hcs, hle, fun o _ => by simp, repR_of_in hb (hin.mono E)⟩
    · rename_i hne
      rw [Nat.beq_eq] at hne
      obtain ⟨M, h1, h2, h3, h4⟩ := hs.ent x hbk hx
      exact ⟨M, by simp [Ctx.set, hne, h1], h2, h3, h4.mono E (fun c hc => hold c (blk_lt h4 hc))⟩
  · simp only [Ctx.set] at hM ⊢
    split at hM
    · rename_i hxu; subst hxu; exact hs.lt _ L hL
    · exact hs.lt x M hM
  · simp only [Ctx.set] at h1 h2
    split at h1 <;> split at h2
    · omega
    · simp only [Option.some.injEq] at h1; subst h1; simp at h3; have := loc_lt hs h2 h4; omega
    · simp only [Option.some.injEq] at h2; subst h2; simp at h4; have := loc_lt hs h1 h3; omega
    · exact hs.inj x x' M M' c h1 h2 h3 h4
  · simp only [Ctx.set] at h1 h3 h4
    split at h1
    · simp only [Option.some.injEq] at h1; subst h1; simp at h2
      have := hs.regs l c h3 h4
      omega
    · exact hs.own x M c l h1 h2 h3 h4
  · have := hs.regs l c h1 h2
    simp; omega
  · refine ⟨by simp, fun c hc _ => hold c hc, fun c ho => ?_, fun c hc => hc, fun c hc => .inl hc, rfl, rfl, fun x _ L' h' => ?_⟩
    · rcases ho with ⟨x, M, h1, h2⟩ | hc
      · simp only [Ctx.set] at h1
        split at h1
        · simp only [Option.some.injEq] at h1; subst h1; simp at h2; exact .inr (by omega)
        · exact .inl (.inl ⟨x, M, h1, h2⟩)
      · exact .inl (.inr hc)
    · simp only [Ctx.set] at h'
      split at h'
      · rename_i hxu
        subst hxu
        simp only [Option.some.injEq] at h'
        subst h'
        exact ⟨L, hL, .inr hgt⟩
      · exact ⟨L', h', .inl rfl⟩

theorem rowsIn_replicate {zs : List Value} {row : List V} (hz : RepL C w zs row) (n : Nat) : RowsIn C w ((Array.range (n * row.length)).map (fun i => (⟨zs⟩ : Array Value)[i % (⟨zs⟩ : Array Value).size]!)) row.length (List.replicate n row) := by
  refine ⟨fun _ => zs, fun i r hi => ?_⟩
  rw [List.getElem?_replicate] at hi
  split at hi
  · rename_i hin
    simp only [Option.some.injEq] at hi
    subst hi
    refine ⟨hz.length, fun j v hj => ?_, hz⟩
    have hjl : j < zs.length := by
      rcases Nat.lt_or_ge j zs.length with h | h
      · exact h
      · simp [List.getElem?_eq_none h] at hj
    have hzl := hz.length
    have hlt : i * row.length + j < n * row.length := by
      have : (i + 1) * row.length ≤ n * row.length := Nat.mul_le_mul_right _ hin
      rw [Nat.succ_mul] at this; omega
    have hmod : (i * row.length + j) % zs.length = j := by
      rw [hzl, Nat.mul_comm, Nat.mul_add_mod]; exact Nat.mod_eq_of_lt (by omega)
    simp [Array.getElem?_map, Array.getElem?_range, hlt, hmod]
    rw [List.getElem?_eq_getElem hjl] at hj
    simp only [Option.some.injEq] at hj
    rw [← hj]
    simp [hjl]
  · simp at hi

theorem rowsIn_append {cs ds : List Value} {sz : Nat} {rows ys : List (List V)} (h1 : RowsIn C w ⟨cs⟩ sz rows) (hl : cs.length = rows.length * sz) (h2 : RowsIn C w ⟨ds⟩ sz ys) (rest : List Value) : RowsIn C w ⟨cs ++ ds ++ rest⟩ sz (rows ++ ys) := by
  obtain ⟨v1, a1⟩ := h1
  obtain ⟨v2, a2⟩ := h2
  refine ⟨fun i => if i < rows.length then v1 i else v2 (i - rows.length), fun i row hi => ?_⟩
  by_cases hlt : i < rows.length
  · rw [List.getElem?_append_left hlt] at hi
    simp only [if_pos hlt]
    obtain ⟨b1, b2, b3⟩ := a1 i row hi
    refine ⟨b1, fun j v hj => ?_, b3⟩
    have := b2 j v hj
    simp only [List.getElem?_toArray] at this ⊢
    rw [List.append_assoc, List.getElem?_append_left]
    · exact this
    · rcases Nat.lt_or_ge (i * sz + j) cs.length with h | h
      · exact h
      · simp [List.getElem?_eq_none h] at this
  · rw [List.getElem?_append_right (by omega)] at hi
    simp only [if_neg hlt]
    obtain ⟨b1, b2, b3⟩ := a2 _ row hi
    refine ⟨b1, fun j v hj => ?_, b3⟩
    have := b2 j v hj
    simp only [List.getElem?_toArray] at this ⊢
    have e : i * sz + j = cs.length + ((i - rows.length) * sz + j) := by
      rw [hl, ← Nat.add_assoc, ← Nat.add_mul]
      congr 2; omega
    rw [List.append_assoc, e, List.getElem?_append_right (by omega), Nat.add_sub_cancel_left, List.getElem?_append_left]
    · exact this
    · rcases Nat.lt_or_ge ((i - rows.length) * sz + j) ds.length with h | h
      · exact h
      · simp [List.getElem?_eq_none h] at this

end
end Go.Abs
