/-
  The logic: straight operations over abstract states; memory made and written.
-/
import Derived.Test.YtiecdekmiabmkaaAbsC
set_option linter.unusedVariables false
set_option linter.unusedSimpArgs false
namespace Go.Abs

def Goal (C : Ctx) (w : World) (K : St → Prop) (Q : Exit → Act → World → Prop) : Prop :=
  ∀ C' w' a' s', StRep C' w' a' s' → Fr C C' w w' → K s' → Q .normal a' w'

def AOps (P : Program) (ops : Array Oper) (l : List Oper) (s : St) (K : St → Prop) : Prop :=
  ∀ C w a Q, StRep C w a s → Goal C w K Q → wpList P ops Q l a w

def gd (l : List Oper) (s : St) (g : Option (Nat × Bool)) : Option Bool :=
  match g with
  | none => some true
  | some (j, want) => match (l[j]?).bind (·.dst) with
    | some d => (match eget s.env d with
      | .bool b => some (b == want)
      | .tup [] => some false
      | _ => none)
    | none => none

section
variable {P : Program} {T : List TI} {C : Ctx} {w : World} {a : Act} {s : St} {ops : Array Oper}

theorem put_rep (hs : StRep C w a s) {d : Option Nat} {v : Value} {x : V} {s' : St} (hr : Rep C w v x) (hp : s.put d x = some s') : StRep C w (a.put d v) s' := by
  cases d with
  | none =>
    have : s.put none x = some s := by cases s; rfl
    rw [this] at hp
    simp at hp; subst hp; exact hs
  | some d =>
    have : s.put (some d) x = bif Nat.blt d s.n then some { s with env := (d, x) :: s.env } else none := by cases s; rfl
    rw [this] at hp
    rw [Bool.cond_eq_ite] at hp
    split at hp
    · rename_i hd
      rw [Nat.blt_eq] at hd
      simp only [Option.some.injEq] at hp
      subst hp
      refine ⟨hs.defers, by simp [Act.put, hs.size], hs.nx, fun i => ?_, hs.heap, hs.lv⟩
      simp only [Act.put, eget]
      rw [Bool.cond_eq_ite]
      by_cases hi : i = d
      · subst hi
        rw [if_pos (by simp)]
        have : i < a.tmps.size := by rw [hs.size]; exact hd
        simp [Array.getD, this]; exact hr
      · rw [if_neg (by simp [hi])]
        have := hs.env i
        simp only [Array.getD_eq_getD_getElem?] at this ⊢
        rw [Array.getElem?_setIfInBounds_ne (by omega)]
        exact this
    · simp at hp

theorem gd_spec (hs : StRep C w a s) {o : Oper} {b : Bool} (h : gd ops.toList s o.guard = some b) : Region.wanted o (yielded ops a.tmps) = b := by
  unfold gd at h
  unfold Region.wanted
  split at h
  · rename_i hg; rw [hg]; simpa using h
  · rename_i j want hg
    rw [hg]
    simp only
    split at h
    · rename_i d hd
      have hrep := hs.env d
      have hd' : (ops[j]?).bind (·.dst) = some d := by simpa using hd
      simp only [yielded, hd', Option.bind_some]
      split at h
      · rename_i b' hb
        rw [hb] at hrep
        generalize hv : a.tmps.getD d undef = v at hrep
        cases hrep
        have : a.tmps[d]? = some (.bool b') := by
          simp only [Array.getD_eq_getD_getElem?] at hv
          cases hq : a.tmps[d]? with
          | none => rw [hq] at hv; simp [undef] at hv
          | some q => rw [hq] at hv; simp at hv; rw [hv]
        rw [this]
        simp only [Option.some.injEq] at h
        rw [← h]
        cases b' <;> cases want <;> rfl
      · rename_i hb
        rw [hb] at hrep
        generalize hv : a.tmps.getD d undef = v at hrep
        cases hrep with
        | tup hl =>
          cases hl
          simp only [Option.some.injEq] at h
          subst h
          simp only [Array.getD_eq_getD_getElem?] at hv
          cases hq : a.tmps[d]? with
          | none => simp
          | some q => rw [hq] at hv; simp at hv; subst hv; simp
      · simp at h
    · simp at h

theorem goal_step {C' : Ctx} {w' : World} {K : St → Prop} {Q : Exit → Act → World → Prop} (F : Fr C C' w w') (g : Goal C w K Q) : Goal C' w' K Q :=
  fun C2 w2 a2 s2 h1 h3 h4 => g C2 w2 a2 s2 h1 (F.trans h3) h4

theorem aops_nil {K : St → Prop} (h : K s) : AOps P ops [] s K :=
  fun C w a _ hs g => g C w a s hs (Fr.refl _ _) h

/-- An operation that yields a value. -/
theorem aops_value {o : Oper} {r : List Oper} {K : St → Prop} (hg : gd ops.toList s o.guard = some true)
    (h : ∀ C w a, StRep C w a s → ∃ v w' C' s', (execOp a.eval o).run P w = .ok (.value v) w' ∧ StRep C' w' (a.put o.dst v) s' ∧ Fr C C' w w' ∧ AOps P ops r s' K) :
    AOps P ops (o :: r) s K := by
  intro C w a Q hs g
  obtain ⟨v, w', C', s', h1, h2, h4, h5⟩ := h C w a hs
  unfold wpList
  rw [if_pos (gd_spec hs hg)]
  refine .inl ?_
  unfold Oper.wp
  rw [h1]
  exact h5 C' w' _ Q h2 (goal_step h4 g)

theorem aops_skipv {o : Oper} {r : List Oper} {K : St → Prop} (hg : gd ops.toList s o.guard = some true)
    (h : ∀ C w a, StRep C w a s → ∃ w' C' s', (execOp a.eval o).run P w = .ok .skip w' ∧ StRep C' w' (a.put o.dst undef) s' ∧ Fr C C' w w' ∧ AOps P ops r s' K) :
    AOps P ops (o :: r) s K := by
  intro C w a Q hs g
  obtain ⟨w', C', s', h1, h2, h4, h5⟩ := h C w a hs
  unfold wpList
  rw [if_pos (gd_spec hs hg)]
  refine .inl ?_
  unfold Oper.wp
  rw [h1]
  exact h5 C' w' _ Q h2 (goal_step h4 g)

/-- An operation that only computes. -/
theorem aops_pure {o : Oper} {r : List Oper} {K : St → Prop} {x : V} {s' : St} (hT : TabOK P T) (hg : gd ops.toList s o.guard = some true) (hx : pstep T s o.op = some x) (hp : s.put o.dst x = some s')
    (h : AOps P ops r s' K) : AOps P ops (o :: r) s K :=
  aops_value hg fun C w a hs => by
    obtain ⟨v, h1, h2⟩ := pstep_sound hT hs hx
    exact ⟨v, w, C, s', h1 w (Agree.refl w), put_rep hs h2 hp, Fr.refl _ _, h⟩

/-- An operation whose guard says no. -/
theorem aops_idle {o : Oper} {r : List Oper} {K : St → Prop} {s' : St} (hg : gd ops.toList s o.guard = some false) (hp : s.put o.dst (.tup []) = some s')
    (h : AOps P ops r s' K) : AOps P ops (o :: r) s K := by
  intro C w a Q hs g
  unfold wpList
  rw [if_neg (by rw [gd_spec hs hg]; simp)]
  exact h C w _ _ (put_rep hs (.tup .nil) hp) g

theorem new_rep {hb : HB} (h : StRep C w a { s with heap := (s.nx, hb) :: s.heap, nx := s.nx + 1 }) : StRep C w a (s.new hb) := by cases s; exact h
theorem wr_rep {u : Nat} {hb : HB} (h : StRep C w a { s with heap := (u, hb) :: s.heap }) : StRep C w a (s.wr u hb) := by cases s; exact h

/-- A new row is made, its address (or a slice over it) yielded. -/
theorem aops_new {o : Oper} {r : List Oper} {K : St → Prop} {sz cap : Nat} {rows : List (List V)} {x : V} {s1 : St} (hg : gd ops.toList s o.guard = some true)
    (hrun : ∀ C w a, StRep C w a s → ∃ v cs el, (execOp a.eval o).run P w = .ok (.value v) (w.alloc (.cells cs el)) ∧ cs.size = cap * sz ∧ rows.length ≤ cap ∧ RowsIn C w cs sz rows ∧
      (∀ C', (∀ L, C'.loc s.nx = some L → L = ⟨some w.heap.size, sz, rows.length, cap⟩) → s.nx < C'.nx → Rep C' (w.alloc (.cells cs el)) v x))
    (hp : (s.new ⟨sz, rows⟩).put o.dst x = some s1) (h : AOps P ops r s1 K) : AOps P ops (o :: r) s K :=
  aops_value hg fun C w a hs => by
    obtain ⟨v, cs, el, h1, h2, h3, h4, h5⟩ := hrun C w a hs
    have hh := hs.heap.alloc (el := el) h2 h3 h4
    have E := ext_add hs.heap (.cells cs el) ⟨some w.heap.size, sz, rows.length, cap⟩
    have F := fr_add (C := C) (w := w) (.cells cs el) (L := ⟨some w.heap.size, sz, rows.length, cap⟩) rfl hs.heap.two
    refine ⟨v, _, _, s1, h1, put_rep (s := s.new ⟨sz, rows⟩) (new_rep ⟨hs.defers, hs.size, by simp [Ctx.set, hs.nx], fun i => (hs.env i).mono E, by rw [← hs.nx]; exact hh, hs.lv⟩) (h5 _ ?_ ?_) hp, F, h⟩
    · intro L hL
      simp [Ctx.set, hs.nx] at hL
      exact hL.symm
    · simp [Ctx.set, hs.nx]

theorem rowsIn_one {cs : List Value} {row : List V} (h : RepL C w cs row) : RowsIn C w ⟨cs⟩ row.length [row] :=
  ⟨fun _ => cs, fun i r hi => by
    cases i with
    | zero => simp at hi; subst hi; exact ⟨h.length, fun j v hj => by simpa using hj, h⟩
    | succ i => simp at hi⟩

/-- A value of one cell, surely. -/
def oneV (s : St) : V → Bool
  | .int _ _ | .bool _ | .str _ | .nilsl | .nilp | .fn _ => true
  | .psl l _ _ | .pptr l _ _ _ _ => s.live l
  | .ptr u n _ _ => match hget s.heap u with | some hb => Nat.beq n hb.rows.length | none => false
  | _ => false
def cellsV (s : St) (x : V) : Option (List V) :=
  match x.force with
  | some (.agg cs) => some cs
  | some y => bif oneV s y then some [y] else none
  | none => none

theorem oneV_spec (hs : StRep C w a s) {v : Value} {x : V} (h : Rep C w v x) (ho : oneV s x = true) : v.cells = #[v] ∧ v.oneCell' = true := by
  cases h with
  | int | bool | str | psl0 | psl | pptr | nilsl | nilp | fn => exact ⟨rfl, rfl⟩
  | agg | tup | junk | hsl => simp [oneV] at ho
  | psld v h1 _ => exact absurd (hs.live ho) h1
  | pptrd v h1 _ => exact absurd (hs.live ho) h1
  | ptr hu hall =>
    simp only [oneV] at ho
    split at ho
    · rename_i hb hg
      rw [Nat.beq_eq] at ho
      obtain ⟨L, b, _, _, _, _, _, he⟩ := ptr_spec hs.heap (.ptr hu hall) hg ho
      rw [he]; exact ⟨rfl, rfl⟩
    · simp at ho

theorem cellsV_spec (hs : StRep C w a s) {v : Value} {x : V} {cs : List V} (h : Rep C w v x) (hc : cellsV s x = some cs) : RepL C w v.cells.toList cs := by
  unfold cellsV at hc
  split at hc
  · rename_i cs' hf
    have e := force_eq _ _ hf
    subst e
    simp only [Option.some.injEq] at hc
    subst hc
    cases h with
    | agg hl => exact hl
  · rename_i y _ hf
    have e := force_eq _ _ hf
    subst e
    rw [Bool.cond_eq_ite] at hc
    split at hc
    · rename_i ho
      simp only [Option.some.injEq] at hc
      subst hc
      rw [(oneV_spec hs h ho).1]
      exact .cons h .nil
    · simp at hc
  · simp at hc

theorem rep_newptr {b sz cap : Nat} {w1 : World} {u : Nat} (h1 : ∀ L, C.loc u = some L → L = ⟨some b, sz, 1, cap⟩) (h2 : u < C.nx) : Rep C w1 (.pointer (some ⟨b, 0, none⟩)) (.ptr u 1 0 0) :=
  .ptr h2 fun L hL => by
    have := h1 L hL
    subst this
    exact ⟨Nat.le_refl _, fun _ => ⟨b, rfl, by simp⟩⟩

/-- A declared variable. -/
theorem aops_alloc {t : Nat} {ti : TI} {d : Option Nat} {ty : Nat} {pos : String} {af : Array Edge} {gu : Option (Nat × Bool)} {r : List Oper} {K : St → Prop} {s1 : St} (hT : TabOK P T)
    (hg : gd ops.toList s gu = some true) (ht : T[t]? = some ti) (hz : ti.zero.isEmpty = false) {sz : Nat} (hzl : ti.zero.length = sz)
    (hp : s.newP sz [ti.zero] d = some s1) (h : AOps P ops r s1 K) :
    AOps P ops (⟨d, .alloc t, ty, pos, af, gu⟩ :: r) s K :=
  aops_new (cap := 1) (rows := [ti.zero]) (sz := ti.zero.length) hg (fun C w a hs => by
    obtain ⟨z, hz1, hz2⟩ := hT.zero ht (by intro e; simp [e] at hz)
    have hl : z.cells.size = ti.zero.length := by rw [← hz2]; simp
    refine ⟨_, z.cells, t, by simp only [execOp, Instr.alloc, Sem.run_bind, hz1, Result.andThen_ok]; rfl, by omega, by simp, ?_, fun C' h1 h2 => rep_newptr h1 h2⟩
    have := rowsIn_one (C := C) (w := w) (repL_toV C w z.cells.toList)
    rwa [hz2] at this) (by rw [← newP_eq, hzl]; exact hp) h

/-- A value laid in a variable of its own. -/
theorem aops_box {t : Nat} {y : Operand} {cs : List V} {d : Option Nat} {ty : Nat} {pos : String} {af : Array Edge} {gu : Option (Nat × Bool)} {r : List Oper} {K : St → Prop} {s1 : St}
    (hg : gd ops.toList s gu = some true) (hc : cellsV s (ev s y) = some cs) {sz : Nat} (hzl : cs.length = sz)
    (hp : s.newP sz [cs] d = some s1) (h : AOps P ops r s1 K) :
    AOps P ops (⟨d, .box t y, ty, pos, af, gu⟩ :: r) s K :=
  aops_new (cap := 1) (rows := [cs]) (sz := cs.length) hg (fun C w a hs => by
    have hr := cellsV_spec hs (hs.ev y) hc
    have hl := hr.length
    refine ⟨_, (a.eval y).cells, t, by simp only [execOp, Instr.box, newVar, newRow]; rfl, by simpa using hl, by simp, ?_, fun C' h1 h2 => rep_newptr h1 h2⟩
    exact rowsIn_one hr) (by rw [← newP_eq, hzl]; exact hp) h

/-- Cells stored in a row, none of which is frozen. -/
theorem run_storeCells_fz (g o : Nat) (t : TypeId) (fz : Nat × Nat) : ∀ (vs : List Value) (i : Nat) (cur : Array Value) (w : World), w.heap[g]? = some (.cells cur t fz) → (∀ x, x < cur.size → ¬ (fz.1 ≤ x ∧ x < fz.2)) → o + i + vs.length ≤ cur.size → (∀ v ∈ vs, v.oneCell' = true) →
    (storeCells ⟨g, o, none⟩ vs i).run P w = .ok () (w.setRow g (cur.toList.take (o + i) ++ vs ++ cur.toList.drop (o + i + vs.length)).toArray)
  | [], i, cur, w, hg, _, _, _ => by
    simp only [storeCells, List.append_nil, List.length_nil, Nat.add_zero, List.take_append_drop, Array.toArray_toList]
    rw [setRow_self w g cur t fz hg]
    rfl
  | v :: rest, i, cur, w, hg, hfz, hl, h1 => by
    have hi : o + i < cur.size := by simp at hl; omega
    have hadd : (⟨g, o, none⟩ : Addr).add i = ⟨g, o + i, none⟩ := addr_add _ _ _
    have hcell : w.cell? ⟨g, o + i, none⟩ = some cur[o + i] := by simp [World.cell?, hg, hi]
    have hfro : w.frozen? ⟨g, o + i, none⟩ = false := by
      have := hfz (o + i) hi
      obtain ⟨lo, hi'⟩ := fz
      simp only [World.frozen?, hg, Bool.and_eq_false_iff, decide_eq_false_iff_not]
      simp only at this
      omega
    have hst : (store ((⟨g, o, none⟩ : Addr).add i) v).run P w = .ok () (w.setRow g (cur.setIfInBounds (o + i) v)) := by
      rw [hadd, run_store P w _ v _ (h1 v (by simp)), hcell]
      simp [hfro, setCell_eq_setRow w g (o + i) cur t fz v hg]
    have ih := run_storeCells_fz g o t fz rest (i + 1) (cur.setIfInBounds (o + i) v) (w.setRow g (cur.setIfInBounds (o + i) v)) (setRow_heap w g cur _ t _ hg) (by simpa using hfz) (by simp at hl ⊢; omega) (fun x hx => h1 x (by simp [hx]))
    simp only [storeCells, Sem.run_bind, hst, Result.andThen_ok, ih, setRow_setRow]
    congr 3
    have e := list_seg_step cur.toList (o + i) v rest (by simp at hl ⊢; omega)
    simpa [Array.toList_setIfInBounds, Nat.add_assoc] using e

theorem splice_get {α : Type} (l vs : List α) (o : Nat) (h : o + vs.length ≤ l.length) (j : Nat) :
    (l.take o ++ vs ++ l.drop (o + vs.length))[j]? = if o ≤ j ∧ j < o + vs.length then vs[j - o]? else l[j]? := by
  by_cases h1 : j < o
  · rw [if_neg (by omega), List.append_assoc, List.getElem?_append_left (by simp; omega), List.getElem?_take, if_pos h1]
  · by_cases h2 : j < o + vs.length
    · rw [if_pos ⟨by omega, h2⟩, List.append_assoc, List.getElem?_append_right (by simp; omega), List.getElem?_append_left (by simp; omega)]
      congr 1
      simp; omega
    · rw [if_neg (by omega), List.getElem?_append_right (by simp; omega), List.getElem?_drop]
      congr 1
      simp; omega

/-- The rows of a row of cells behind a store within row i. -/
theorem rowsIn_store {cs : Array Value} {sz i off cap : Nat} {rows : List (List V)} {row ys : List V} {vs : List Value} (hcs : cs.size = cap * sz) (hle : rows.length ≤ cap) (hin : RowsIn C w cs sz rows) (hrow : rows[i]? = some row)
    (hv : RepL C w vs ys) (hoff : off + ys.length ≤ row.length) :
    RowsIn C w (cs.toList.take (i * sz + off) ++ vs ++ cs.toList.drop (i * sz + off + vs.length)).toArray sz (rows.set i (row.take off ++ ys ++ row.drop (off + ys.length))) ∧
    i * sz + off + vs.length ≤ cs.size := by
  obtain ⟨vals, hall⟩ := hin
  have hvl := hv.length
  obtain ⟨hi1, hi2, hi3⟩ := hall i row hrow
  have hrl := hi3.length
  have hilt : i < rows.length := by
    rcases Nat.lt_or_ge i rows.length with h | h
    · exact h
    · simp [List.getElem?_eq_none h] at hrow
  have hbound : i * sz + sz ≤ cs.size := by
    rw [hcs, ← Nat.succ_mul]; exact Nat.mul_le_mul_right _ (by omega)
  have hb2 : i * sz + off + vs.length ≤ cs.size := by omega
  refine ⟨⟨fun k => if k = i then (vals i).take off ++ vs ++ (vals i).drop (off + vs.length) else vals k, fun k r hk => ?_⟩, hb2⟩
  rw [List.getElem?_set] at hk
  by_cases hki : i = k
  · subst hki
    rw [if_pos rfl, if_pos hilt] at hk
    simp only [Option.some.injEq] at hk
    subst hk
    simp only [if_pos]
    refine ⟨by simp; omega, fun j v hj => ?_, ?_⟩
    · rw [splice_get _ _ _ (by omega)] at hj
      rw [List.getElem?_toArray, splice_get _ _ _ (by simpa using hb2)]
      split at hj
      · rename_i h; rw [if_pos (by omega)]; rw [← hj]; congr 1; omega
      · rename_i h; rw [if_neg (by omega)]; have := hi2 j v hj; simpa using this
    · have := ((hi3.take off).append hv).append (hi3.drop (off + ys.length))
      rwa [← hvl] at this ⊢
  · rw [if_neg hki] at hk
    have hk' : ¬ k = i := fun h => hki h.symm
    simp only [if_neg hk']
    obtain ⟨h1, h2, h3⟩ := hall k r hk
    refine ⟨h1, fun j v hj => ?_, h3⟩
    rw [List.getElem?_toArray, splice_get _ _ _ (by simpa using hb2)]
    have hjl : j < sz := by
      rcases Nat.lt_or_ge j (vals k).length with h | h
      · omega
      · simp [List.getElem?_eq_none h] at hj
    have hne : ¬ (i * sz + off ≤ k * sz + j ∧ k * sz + j < i * sz + off + vs.length) := by
      rintro ⟨g1, g2⟩
      rcases Nat.lt_or_gt_of_ne hk' with h | h
      · have : (k + 1) * sz ≤ i * sz := Nat.mul_le_mul_right _ h
        rw [Nat.succ_mul] at this; omega
      · have : (i + 1) * sz ≤ k * sz := Nat.mul_le_mul_right _ h
        rw [Nat.succ_mul] at this; omega
    rw [if_neg hne]
    have := h2 j v hj
    simpa using this

theorem setRow_other (w : World) (g c : Nat) (cs : Array Value) (h : c ≠ g) : (w.setRow g cs).heap[c]? = w.heap[c]? := by
  simp only [World.setRow, Array.getElem?_modify]
  rw [if_neg (fun e => h e.symm)]

theorem setRow_size (w : World) (g : Nat) (cs : Array Value) : (w.setRow g cs).heap.size = w.heap.size := by
  simp [World.setRow]

theorem all_one (hs : StRep C w a s) : ∀ {vs : List Value} {ys : List V}, RepL C w vs ys → ys.all (oneV s) = true → ∀ v ∈ vs, v.oneCell' = true
  | _, _, .nil, _, v, hv => by simp at hv
  | _, _, .cons h t, ha, v, hv => by
    simp only [List.all_cons, Bool.and_eq_true] at ha
    rcases List.mem_cons.1 hv with rfl | hv
    · exact (oneV_spec hs h ha.1).2
    · exact all_one hs t ha.2 v hv

theorem set_same (C : Ctx) {u : Nat} {L : Loc} {n : Nat} (hL : C.loc u = some L) (hn : L.n = n) : C.set u { L with n := n } C.nx = C := by
  subst hn
  have : (fun x => if x = u then some { L with n := L.n } else C.loc x) = C.loc := by
    funext x
    split
    · rename_i h; rw [h, hL]
    · rfl
  cases C
  simp only [Ctx.set] at this ⊢
  rw [this]

/-- A store into a row of the call's own. -/
theorem aops_store {t : Nat} {y z : Operand} {ti : TI} {u n i off : Nat} {hb : HB} {row cs : List V} {ty : Nat} {pos : String} {af : Array Edge} {gu : Option (Nat × Bool)} {r : List Oper} {K : St → Prop} (hT : TabOK P T)
    (hg : gd ops.toList s gu = some true) (ht : T[t]? = some ti) (hy : ev s y = .ptr u n i off) (hu : hget s.heap u = some hb) (hn : n = hb.rows.length) (hrow : hb.rows[i]? = some row)
    (hc : cellsV s (ev s z) = some cs) (hone : cs.all (oneV s) = true) (hsz : ti.size = cs.length) (hoff : off + cs.length ≤ row.length)
    (h : AOps P ops r (s.wr u ⟨hb.sz, hb.rows.set i (row.take off ++ cs ++ row.drop (off + cs.length))⟩) K) :
    AOps P ops (⟨none, .store t y z, ty, pos, af, gu⟩ :: r) s K :=
  aops_skipv hg fun C w a hs => by
    have hv := hs.ev y
    rw [hy] at hv
    obtain ⟨L, b, hL, hLsz, hLn, hblk, hbb, he⟩ := ptr_spec hs.heap hv hu hn
    obtain ⟨cells, el, fz, hheap, hcs, hle, hfz, hrep⟩ := of_blk hbb hblk
    have hz := cellsV_spec hs (hs.ev z) hc
    have hzl := hz.length
    have hin := in_of_repR hheap hrep
    obtain ⟨hin2, hbd⟩ := rowsIn_store hcs hle hin hrow hz hoff
    have hrun := run_storeCells_fz (P := P) b (i * hb.sz + off) el fz (a.eval z).cells.toList 0 cells w hheap hfz (by rw [hLsz] at hbd; simpa using hbd) (all_one hs hz hone)
    have hw := HSt.write hs.heap (w' := w.setRow b _) (rows := hb.rows.set i (row.take off ++ cs ++ row.drop (off + cs.length))) hL hbb rfl rfl (setRow_size w b (cells.toList.take (i * L.sz + off) ++ (a.eval z).cells.toList ++ cells.toList.drop (i * L.sz + off + (a.eval z).cells.toList.length)).toArray) (fun c hc => setRow_other w b c _ hc) (setRow_heap w b cells _ el fz hheap)
      (by simp at hbd ⊢; omega) (by
        have : ((cells.toList.take (i * L.sz + off) ++ (a.eval z).cells.toList ++ cells.toList.drop (i * L.sz + off + (a.eval z).cells.toList.length)).toArray).size = cells.size := by
          simp at hbd ⊢; omega
        rw [this]; exact hfz) (by simpa using hle) (.inl (by simp [hLn])) (fun C' w' E => hin2.mono E)
    have hset := set_same C (n := (hb.rows.set i (row.take off ++ cs ++ row.drop (off + cs.length))).length) hL (by simp [hLn])
    rw [hset, hLsz] at hw
    obtain ⟨w1, w2, w3⟩ := hw
    refine ⟨_, C, s.wr u ⟨hb.sz, hb.rows.set i (row.take off ++ cs ++ row.drop (off + cs.length))⟩, ?_, wr_rep ⟨hs.defers, hs.size, hs.nx, fun i => (hs.env i).mono w2, w1, hs.lv⟩, w3, h⟩
    have e : (a.eval z).cells.size = ti.size := by rw [hsz, ← hzl]; simp
    simp only [Nat.add_zero] at hrun
    simp [execOp, he, Instr.storeAt, Instr.sureAddr, storeVar, hT.size ht, e, hrun]

def St.norm : St → Option St
  | ⟨env, heap, nx, n, lv⟩ => some ⟨env, heap, nx, n, lv⟩
theorem norm_eq (s : St) : s.norm = some s := by cases s; rfl

/-- Cells laid over a row's, the row written out. -/
def putAt : List V → Nat → List V → Option (List V)
  | r, 0, [] => some r
  | _ :: r, 0, y :: ys => match putAt r 0 ys with | some t => some (y :: t) | none => none
  | x :: r, o + 1, ys => match putAt r o ys with | some t => some (x :: t) | none => none
  | [], _, _ => none
theorem putAt_spec : ∀ {row : List V} {off : Nat} {cs l : List V}, putAt row off cs = some l → l = row.take off ++ cs ++ row.drop (off + cs.length) ∧ off + cs.length ≤ row.length
  | row, 0, [], l, h => by cases row <;> simp [putAt] at h <;> simp [h]
  | x :: r, 0, y :: ys, l, h => by
    simp only [putAt] at h
    split at h
    · rename_i t ht
      obtain ⟨h1, h2⟩ := putAt_spec ht
      simp only [Option.some.injEq] at h
      subst h; subst h1
      simp only [List.take_zero, List.nil_append, Nat.zero_add, List.length_cons, List.cons_append, List.drop_succ_cons, true_and]
      omega
    · simp at h
  | x :: r, o + 1, ys, l, h => by
    have h' : (match putAt r o ys with | some t => some (x :: t) | none => none) = some l := by cases ys <;> simpa [putAt] using h
    split at h'
    · rename_i t ht
      obtain ⟨h1, h2⟩ := putAt_spec ht
      simp only [Option.some.injEq] at h'
      subst h'; subst h1
      have e : o + 1 + ys.length = (o + ys.length) + 1 := by omega
      refine ⟨by rw [e]; simp, by simp; omega⟩
    · simp at h'
  | [], 0, y :: ys, l, h => by simp [putAt] at h
  | [], o + 1, [], l, h => by simp [putAt] at h
  | [], o + 1, y :: ys, l, h => by simp [putAt] at h
/-- The same; a whole row at once. -/
def putRow (row : List V) (off : Nat) (cs : List V) : Option (List V) := bif Nat.beq off 0 && Nat.beq cs.length row.length then some cs else putAt row off cs
theorem putRow_spec {row : List V} {off : Nat} {cs l : List V} (h : putRow row off cs = some l) : l = row.take off ++ cs ++ row.drop (off + cs.length) ∧ off + cs.length ≤ row.length := by
  unfold putRow at h
  rw [Bool.cond_eq_ite] at h
  split at h
  · rename_i hc
    simp only [Bool.and_eq_true, Nat.beq_eq] at hc
    simp only [Option.some.injEq] at h
    subst h
    rw [hc.1, Nat.zero_add, hc.2]
    simp
  · exact putAt_spec h
/-- One row of rows set, the rows ahead of it written out. -/
def setF : List (List V) → Nat → List V → Option (List (List V))
  | _ :: r, 0, x => some (x :: r)
  | y :: r, i + 1, x => match setF r i x with | some t => some (y :: t) | none => none
  | [], _, _ => none
theorem setF_spec : ∀ {rows : List (List V)} {i : Nat} {x : List V} {l : List (List V)}, setF rows i x = some l → l = rows.set i x
  | y :: r, 0, x, l, h => by simp [setF] at h; simp [h]
  | y :: r, i + 1, x, l, h => by
    simp only [setF] at h
    split at h
    · rename_i t ht
      have := setF_spec ht
      simp only [Option.some.injEq] at h
      subst h; subst this; rfl
    · simp at h
  | [], i, x, l, h => by simp [setF] at h

/-- The machine that 'sx' runs: what needs no proof of its own. -/
def hstep (T : List TI) (s : St) (o : Oper) : Option St :=
  match o.op with
  | .alloc t => match T[t]? with
    | some ⟨_, size, _, zero, _⟩ => bif zero.isEmpty || !Nat.beq zero.length size then none else s.newP size [zero] o.dst
    | none => none
  | .box t y => match T[t]?, cellsV s (ev s y) with
    | some ⟨_, size, _, _, _⟩, some cs => bif Nat.beq cs.length size then s.newP size [cs] o.dst else none
    | _, _ => none
  | .store t y z => match o.dst, T[t]?, ev s y with
    | none, some ti, .ptr u n i off => (match hget s.heap u with
      | some ⟨sz, rows⟩ => (match rows[i]?, cellsV s (ev s z) with
        | some row, some cs => bif Nat.beq n rows.length && (cs.all (oneV s) && Nat.beq ti.size cs.length) then
            (match putRow row off cs with
              | some row' => (match setF rows i row' with | some rows' => (s.wr u ⟨sz, rows'⟩).norm | none => none)
              | none => none) else none
        | _, _ => none)
      | none => none)
    | _, _, _ => none
  | _ => none

def xstep (T : List TI) (l : List Oper) (s : St) (o : Oper) : Option St :=
  match gd l s o.guard with
  | some true => (match pstep T s o.op with
    | some v => s.put o.dst v
    | none => hstep T s o)
  | some false => s.put o.dst (.tup [])
  | none => none

/-- ONE OPERATION, BY COMPUTATION: 'refine sx hT rfl ?_'. -/
theorem sx {o : Oper} {r : List Oper} {K : St → Prop} {s' : St} (hT : TabOK P T) (hx : xstep T ops.toList s o = some s') (h : AOps P ops r s' K) : AOps P ops (o :: r) s K := by
  unfold xstep at hx
  split at hx
  · rename_i hg
    split at hx
    · rename_i v hv
      exact aops_pure hT hg hv hx h
    · unfold hstep at hx
      obtain ⟨d, op, ty, pos, af, gu⟩ := o
      simp only at hx hg
      split at hx
      · split at hx
        · rename_i kd size bts zero ag ht
          rw [Bool.cond_eq_ite] at hx
          split at hx
          · simp at hx
          · rename_i hz
            simp only [Bool.or_eq_true, Bool.not_eq_true', not_or, Bool.not_eq_true, Bool.not_eq_false, Nat.beq_eq] at hz
            exact aops_alloc hT hg ht hz.1 hz.2 hx h
        · simp at hx
      · split at hx
        · rename_i kd size bts zero ag cs ht hc
          rw [Bool.cond_eq_ite] at hx
          split at hx
          · rename_i hz
            rw [Nat.beq_eq] at hz
            exact aops_box hg hc hz hx h
          · simp at hx
        · simp at hx
      · split at hx
        · rename_i t y z _ _ _ ti u n i off ht hy _
          split at hx
          · rename_i sz rows hu
            split at hx
            · rename_i row cs hrow hc
              rw [Bool.cond_eq_ite] at hx
              split at hx
              · rename_i hall
                simp only [Bool.and_eq_true, Nat.beq_eq] at hall
                split at hx
                · rename_i row' hrow'
                  split at hx
                  · rename_i rows' hrows'
                    rw [norm_eq] at hx
                    simp only [Option.some.injEq] at hx
                    subst hx
                    obtain ⟨e1, e2⟩ := putRow_spec hrow'
                    have e3 := setF_spec hrows'
                    subst e1; subst e3
                    exact aops_store hT hg ht hy hu hall.1 hrow hc hall.2.1 hall.2.2 e2 h
                  · simp at hx
                · simp at hx
              · simp at hx
            · simp at hx
          · simp at hx
        · simp at hx
      · simp at hx
  · rename_i hg
    exact aops_idle hg hx h
  · simp at hx

end
end Go.Abs
