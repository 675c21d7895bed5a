/-
  make, append, and slices handed back as slices that are only read.
-/
import Derived.Test.YtiecdekmiabmkaaAbsI
set_option linter.unusedVariables false
set_option linter.unusedSimpArgs false
namespace Go.Abs

section
variable {P : Program} {T : List TI} {s : St} {ops : Array Oper} {d : Option Nat} {ty : Nat} {pos : String} {af : Array Edge} {gu : Option (Nat × Bool)} {r : List Oper} {K : St → Prop} {s1 : St}

/-- A slice's element type, its size, its bytes and its zero value. -/
def elemI (T : List TI) (t : Nat) : Option (Nat × TI) := match T[t]? with
  | some ti => (match ti.kind with
    | .slice e => (match T[e]? with | some te => some (e, te) | none => none)
    | _ => none)
  | none => none
theorem elemI_spec {t e : Nat} {te : TI} (hT : TabOK P T) (h : elemI T t = some (e, te)) : P.underlying t = some (.slice e) ∧ T[e]? = some te := by
  unfold elemI at h
  split at h
  · rename_i ti ht
    split at h
    · rename_i e' hk
      split at h
      · rename_i te' hte
        simp only [Option.some.injEq, Prod.mk.injEq] at h
        obtain ⟨rfl, rfl⟩ := h
        exact ⟨hT.slice ht hk, hte⟩
      · simp at h
    · simp at h
  · simp at h

theorem rep_hsl_new {C : Ctx} {w1 : World} {b sz n cap u : Nat} (h1 : ∀ L, C.loc u = some L → L = ⟨some b, sz, n, cap⟩) (h2 : u < C.nx) : Rep C w1 (.slice (some ⟨b, 0, none⟩) n cap) (.hsl u 0 n) :=
  .hsl h2 fun L hL => by
    have := h1 L hL
    subst this
    exact ⟨by simp, fun _ => by simp [HSL]⟩

/-- 'make([]T, n)'. -/
theorem s_make {t e : Nat} {kd : TK} {sz bts : Nat} {z0 : List V} {ag : Bool} {x y : Operand} {n : Int} (hT : TabOK P T) (hg : gd ops.toList s gu = some true) (ht : elemI T t = some (e, ⟨kd, sz, bts, z0, ag⟩)) (hx : ev s x = .int .i64 n) (hy : ev s y = .int .i64 n)
    (hz : z0.length = sz ∧ sz ≠ 0) (h0 : 0 ≤ n ∧ bts * n ≤ 281474976710656 ∧ n ≤ 281474976710656)
    (hp : s.newH sz (List.replicate n.toNat z0) n.toNat d = some s1) (h : AOps P ops r s1 K) :
    AOps P ops (⟨d, .makeSlice t x y, ty, pos, af, gu⟩ :: r) s K :=
  aops_new (cap := n.toNat) (rows := List.replicate n.toNat z0) (sz := sz) hg (fun C w a hs => by
    have hv := hs.ev x; rw [hx] at hv
    have hv2 := hs.ev y; rw [hy] at hv2
    generalize e1 : a.eval x = v at hv
    generalize e2 : a.eval y = v2 at hv2
    cases hv; cases hv2
    obtain ⟨hu, hte⟩ := elemI_spec hT ht
    obtain ⟨j, hj, hjs, hjb⟩ := hT.tinfo hte
    obtain ⟨z, hz1, hz2⟩ := hT.zero hte (by intro e; dsimp only at e; rw [e] at hz; simp at hz; omega)
    dsimp only at hjs hjb hz2
    have hzl : z.cells.size = sz := by rw [← hz.1, ← hz2]; simp
    have hw : IntKind.i64.wrap n = n := wrap64_id (by omega)
    have hbig : ¬ (bts : Int) * n > 2 ^ 48 := by
      have : (2 : Int) ^ 48 = 281474976710656 := by decide
      omega
    have hno : ((decide (n < 0) || decide ((j.bytes : Int) * n > 2 ^ 48)) || decide (n < 0) || decide (n > n)) = false := by
      rw [hjb]
      simp only [hbig, decide_false, Bool.or_false, Bool.or_eq_false_iff, decide_eq_false_iff_not]
      omega
    refine ⟨.slice (some ⟨w.heap.size, 0, none⟩) n.toNat n.toNat, (Array.range (n.toNat * sz)).map ((if n.toNat * sz = 0 then #[] else z.cells)[· % (if n.toNat * sz = 0 then #[] else z.cells).size]!), e, ?_, by simp, by simp, ?_, fun C' h1 h2 => rep_hsl_new (by simpa using h1) h2⟩
    · simp only [execOp, e1, e2, Instr.makeSlice, run_underlying hu, asInt, asIntOf, Sem.run_bind, Sem.run_pure, Result.andThen_ok, hj, hw, hno, Bool.false_eq_true, if_false, run_askRoom, hT.size hte, newRow, run_newObj]
      by_cases hn : n.toNat * sz = 0
      · simp [hn]
      · simp [hn, hz1]
    · by_cases hn : n.toNat * sz = 0
      · have : n.toNat = 0 := by
          rcases Nat.mul_eq_zero.1 hn with h | h
          · exact h
          · exact absurd h hz.2
        rw [this]
        exact ⟨fun _ => [], fun i row hi => by simp at hi⟩
      · rw [if_neg hn]
        have hrep := repL_toV C w z.cells.toList
        rw [hz2] at hrep
        have := rowsIn_replicate hrep n.toNat
        rw [hz.1] at this
        exact this) (by rw [← newH_eq]; exact hp) h

/-! ### Handing back -/
def hdel (u : Nat) : List (Nat × HB) → List (Nat × HB)
  | [] => []
  | (j, v) :: r => bif Nat.beq u j then hdel u r else (j, v) :: hdel u r

theorem hget_hdel (u : Nat) : ∀ (h : List (Nat × HB)) (x : Nat), hget (hdel u h) x = if x = u then none else hget h x
  | [], x => by simp [hdel, hget]
  | (j, v) :: r, x => by
    simp only [hdel]
    rw [Bool.cond_eq_ite]
    split
    · rename_i huj
      rw [Nat.beq_eq] at huj
      subst huj
      rw [hget_hdel u r x]
      by_cases hx : x = u
      · rw [if_pos hx, if_pos hx]
      · rw [if_neg hx, if_neg hx]
        simp only [hget]
        rw [Bool.cond_eq_ite, if_neg (by simp [hx])]
    · rename_i huj
      have huj' : u ≠ j := fun e => huj (by subst e; simp)
      simp only [hget, Bool.cond_eq_ite, hget_hdel u r x]
      by_cases hx : x = j
      · have : x ≠ u := fun e => huj' (e ▸ hx)
        simp [hx, huj'.symm]
      · have : ¬ (x.beq j = true) := by rw [Nat.beq_eq]; exact hx
        rw [if_neg this, if_neg this]

def St.frz : St → Nat → Nat → Nat → List (List V) → St
  | ⟨env, heap, nx, n, lv⟩, i, u, sz, rows => ⟨(i, .psl 1 sz rows) :: env, hdel u heap, nx, n, lv⟩

theorem frz_rep {C : Ctx} {w : World} {a : Act} {i u n : Nat} {hb : HB} (hs : StRep C w a s) (hv : eget s.env i = .hsl u 0 n) (hu : hget s.heap u = some hb) (hn : n = hb.rows.length) :
    ∃ C', StRep C' w a (s.frz i u hb.sz hb.rows) ∧ Fr C C' w w := by
  have hrep := hs.env i
  rw [hv] at hrep
  obtain ⟨L, h1, h2, h3, h4, h5⟩ := hsl_spec hs.heap hrep hu (by omega)
  let C' : Ctx := { reg := fun l b => C.reg l b ∨ (l = 1 ∧ L.blk = some b), lv := C.lv, loc := fun x => if x = u then none else C.loc x, nx := C.nx }
  have hloc : ∀ x M, C'.loc x = some M → x ≠ u ∧ C.loc x = some M := fun x M h => by
    simp only [C'] at h
    split at h
    · simp at h
    · exact ⟨by assumption, h⟩
  have E : Ext C C' w w := by
    refine ⟨Nat.le_refl _, fun x M _ h => ⟨M, (hloc x M h).2, .inl rfl⟩, fun _ _ h => h, fun l b _ _ hb => ⟨.inl hb, rfl⟩⟩
  have hsf : s.frz i u hb.sz hb.rows = ⟨(i, .psl 1 hb.sz hb.rows) :: s.env, hdel u s.heap, s.nx, s.n, s.lv⟩ := by cases s; rfl
  have h1nx : 1 < C.nx := by have := hs.heap.two; omega
  refine ⟨C', ?_, ?_⟩
  · rw [hsf]
    refine ⟨hs.defers, hs.size, hs.nx, fun j => ?_, ⟨fun x hx => ?_, fun x hbk hx => ?_, fun x M hM => hs.heap.lt x M (hloc x M hM).2, fun x x' M M' c g1 g2 => hs.heap.inj x x' M M' c (hloc x M g1).2 (hloc x' M' g2).2, fun x M c l g1 g2 g3 g4 => ?_, fun l c g1 g2 => ?_, hs.heap.lvs, fun l l' c g1 g2 g3 g4 => ?_, hs.heap.zero, hs.heap.two⟩, hs.lv⟩
    · simp only [eget]
      rw [Bool.cond_eq_ite]
      split
      · rename_i hj
        rw [Nat.beq_eq] at hj
        subst hj
        unfold HSL at h5
        cases hb' : L.blk with
        | none =>
          rw [hb'] at h5; simp only at h5
          unfold Blk at h4; rw [hb'] at h4
          rw [h5, h4.1]
          exact .psl0 _ _ _ _
        | some b =>
          rw [hb'] at h5; simp only at h5
          obtain ⟨cs, el, fz, q1, q2, q3, q4, vals, q5⟩ := of_blk hb' h4
          rw [h5, Nat.zero_mul]
          refine .psl (off := 0) vals hs.heap.zero.2.1 h1nx (.inr ⟨rfl, hb'⟩) hn (by subst hn; simpa using q3) (fun k row hk => ?_) (fun k row hk => RepL.mono E (q5 k row hk).2.2)
          rw [← h2]
          exact ⟨(q5 k row hk).1, (q5 k row hk).2.1⟩
      · exact (hs.env j).mono E
    · rw [hget_hdel] at hx
      simp only [C']
      split
      · rfl
      · rename_i hne; rw [if_neg hne] at hx; exact hs.heap.dom x hx
    · rw [hget_hdel] at hx
      split at hx
      · simp at hx
      · rename_i hne
        obtain ⟨M, g1, g2, g3, g4⟩ := hs.heap.ent x hbk hx
        exact ⟨M, by simp [C', hne, g1], g2, g3, g4.mono E (fun _ _ => rfl)⟩
    · obtain ⟨g5, g6⟩ := hloc x M g1
      rcases g4 with g4 | ⟨_, g4⟩
      · exact hs.heap.own x M c l g6 g2 g3 g4
      · exact g5 (hs.heap.inj x u M L c g6 h1 g2 g4)
    · rcases g2 with g2 | ⟨_, g2⟩
      · exact hs.heap.regs l c g1 g2
      · exact blk_lt h4 g2
    · rcases g3 with g3 | ⟨e3, g3⟩ <;> rcases g4 with g4 | ⟨e4, g4⟩
      · exact hs.heap.rdis l l' c g1 g2 g3 g4
      · exact absurd g3 (hs.heap.own u L c l h1 g4 g1)
      · exact absurd g4 (hs.heap.own u L c l' h1 g3 g2)
      · rw [e3, e4]
  · refine ⟨Nat.le_refl _, fun _ _ _ => rfl, fun b hb => ?_, fun b hb => ?_, fun b hb => ?_, rfl, rfl, fun x _ M h => ⟨M, (hloc x M h).2, .inl rfl⟩⟩
    · rcases hb with ⟨x, M, g1, g2⟩ | ⟨l, g1, g2, g3⟩
      · exact .inl (.inl ⟨x, M, (hloc x M g1).2, g2⟩)
      · rcases g3 with g3 | ⟨e, _⟩
        · exact .inl (.inr ⟨l, g1, g2, g3⟩)
        · omega
    · rcases hb with hb | ⟨e, _⟩
      · exact hb
      · omega
    · rcases hb with hb | ⟨_, hb⟩
      · exact .inl hb
      · exact .inr (.inl (.inl ⟨u, L, h1, hb⟩))

/-- A slice of the call's own, in slot i, is only read from here on. -/
theorem at_freeze {c : Code} {K : Exit → St → Prop} (i : Nat) {u n sz : Nat} {rows : List (List V)} (hv : eget s.env i = .hsl u 0 n) (hu : hget s.heap u = some ⟨sz, rows⟩) (hn : n = rows.length) (h : AT P c (s.frz i u sz rows) K) : AT P c s K := by
  intro C w a hs
  obtain ⟨C', h1, h2⟩ := frz_rep hs hv hu hn
  exact wp_mono (h C' w a h1) (fun e a w q => post_step h2 q)
theorem ops_freeze {l : List Oper} (i : Nat) {u n sz : Nat} {rows : List (List V)} (hv : eget s.env i = .hsl u 0 n) (hu : hget s.heap u = some ⟨sz, rows⟩) (hn : n = rows.length) (h : AOps P ops l (s.frz i u sz rows) K) : AOps P ops l s K := by
  intro C w a Q hs g
  obtain ⟨C', h1, h2⟩ := frz_rep hs hv hu hn
  exact h C' w a Q h1 (goal_step h2 g)

end
end Go.Abs
