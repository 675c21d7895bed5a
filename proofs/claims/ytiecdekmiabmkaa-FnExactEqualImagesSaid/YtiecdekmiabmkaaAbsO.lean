/-
  Values (a struct of two integers and a text) compared with '=='; texts joined.
-/
import Derived.Test.YtiecdekmiabmkaaAbsN
import Derived.Test.YtiecdekmiabmkaaPlA
import Derived.Laws.StructEq
import Derived.Laws.Concat
set_option linter.unusedVariables false
set_option linter.unusedSimpArgs false
namespace Go.Abs

/-- A type of values: its fields, and that '==' on it asks nothing else. -/
structure VEq (P : Program) (t : TypeId) : Prop where
  g : P.eqGuardType P.depth t = false
  s : P.stoodInHeld t = false
  f : ∃ f0 f1 f2 : Field, P.underlying t = some (.struct #[f0, f1, f2]) ∧ f0.name ≠ "_" ∧ f1.name ≠ "_" ∧ f2.name ≠ "_" ∧ f0.offset = 0 ∧ f1.offset = 1 ∧ f2.offset = 2 ∧
    P.underlying f0.type = some (.int .i64) ∧ P.underlying f1.type = some (.int .i64) ∧ P.underlying f2.type = some .string

section
variable {P : Program} {T : List TI} {s : St}

theorem run_part_flat {t : TypeId} (h : P.underlying t = some (.int .i64) ∨ P.underlying t = some .string) {cs : Array Value} {o : Nat} {v : Value} (hv : cs[o]? = some v) (w : World) : (part t cs o).run P w = .ok v w := by
  unfold part isAgg
  rcases h with h | h <;> simp [run_underlying h, hv]

theorem run_veq {t : TypeId} (V : VEq P t) (v v' : PVal) (w : World) (n : Nat) :
    (Op.equalIn (n + 2) t (.agg #[.int .i64 v.kind, .int .i64 v.number, .string ⟨v.text.toArray⟩]) (.agg #[.int .i64 v'.kind, .int .i64 v'.number, .string ⟨v'.text.toArray⟩])).run P w = .ok (decide (v = v')) w := by
  obtain ⟨f0, f1, f2, hu, n0, n1, n2, o0, o1, o2, u0, u1, u2⟩ := V.f
  have hfs : P.fieldsOf t = #[f0, f1, f2] := by simp [Program.fieldsOf, hu]
  rw [run_equalIn_struct w (n + 1) t _ _ (by rw [hfs]; exact hu) V.s, hfs]
  have p0 : ∀ a b c : Value, ∀ w, (part f0.type #[a, b, c] f0.offset).run P w = .ok a w := fun a b c w => run_part_flat (.inl u0) (by rw [o0]; rfl) w
  have p1 : ∀ a b c : Value, ∀ w, (part f1.type #[a, b, c] f1.offset).run P w = .ok b w := fun a b c w => run_part_flat (.inl u1) (by rw [o1]; rfl) w
  have p2 : ∀ a b c : Value, ∀ w, (part f2.type #[a, b, c] f2.offset).run P w = .ok c w := fun a b c w => run_part_flat (.inr u2) (by rw [o2]; rfl) w
  have e0 : ∀ a b w, (Op.equalIn (n + 1) f0.type (.int .i64 a) (.int .i64 b)).run P w = .ok (a == b) w := fun a b w => run_equalIn_int w n f0.type _ _ a b u0
  have e1 : ∀ a b w, (Op.equalIn (n + 1) f1.type (.int .i64 a) (.int .i64 b)).run P w = .ok (a == b) w := fun a b w => run_equalIn_int w n f1.type _ _ a b u1
  have e2 : ∀ a b w, (Op.equalIn (n + 1) f2.type (.string a) (.string b)).run P w = .ok (a.toList == b.toList) w := fun a b w => run_equalIn_string w n f2.type a b u2
  simp only [Op.eqFields, n0, n1, n2, ne_eq, not_false_eq_true, if_true, Sem.run_bind, p0, p1, p2, e0, e1, e2, Result.andThen_ok, Sem.run_ite, Sem.run_pure, tobytes_eq]
  obtain ⟨k, m, l⟩ := v
  obtain ⟨k', m', l'⟩ := v'
  by_cases h1 : k = k' <;> by_cases h2 : m = m' <;> by_cases h3 : l = l' <;> simp [h1, h2, h3]

theorem rep_pval {C : Ctx} {w : World} {u : Value} {v : PVal} (h : Rep C w u (.agg v.enc)) : u = .agg #[.int .i64 v.kind, .int .i64 v.number, .string ⟨v.text.toArray⟩] := by
  generalize he : V.agg v.enc = x at h
  cases h <;> try (cases he)
  rename_i vs hl
  unfold PVal.enc at hl
  cases hl with
  | cons a t => cases t with
    | cons b t => cases t with
      | cons c t =>
        cases t; cases a; cases b; cases c
        rfl

theorem ov_veq {t t' : Nat} {x y : Operand} {v v' : PVal} (V : VEq P t) (hx : ev s x = .agg v.enc) (hy : ev s y = .agg v'.enc) : OpVal P s (.binOp .eql t x y t') (.bool (decide (v = v'))) := fun C w ac hs d ty pos af gu => by
  have hv := hs.ev x; rw [hx] at hv
  have hv2 := hs.ev y; rw [hy] at hv2
  have e1 := rep_pval hv
  have e2 := rep_pval hv2
  refine ⟨_, fun w' _ => ?_, .bool _⟩
  have h : (Op.equal t (.agg #[.int .i64 v.kind, .int .i64 v.number, .string ⟨v.text.toArray⟩]) (.agg #[.int .i64 v'.kind, .int .i64 v'.number, .string ⟨v'.text.toArray⟩])).run P w' = .ok (decide (v = v')) w' := run_veq V v v' w' 9998
  simp [execOp, e1, e2, eqGuard, binOp, V.g, h]

/-- What a text says of a number. -/
structure TextIs (a b : List UInt8) (p k : Int) : Prop where
  out : a = b ↔ p = k
/-- Two texts compared, where that is told by a number. -/
theorem ov_siff {t t' : Nat} {x y : Operand} {a b : List UInt8} {p k : Int} (hT : TabOK P T) (hx : ev s x = .str a) (hy : ev s y = .str b) (h : TextIs a b p k) : OpVal P s (.binOp .eql t x y t') (.bool (decide (p = k))) := by
  have e : decide (a = b) = decide (p = k) := decide_eq_decide.2 h.out
  rw [← e]
  exact ov_step (T := T) hT (by simp only [pstep, hx, hy, pbin])

theorem ov_cat {t t' : Nat} {x y : Operand} {a b : List UInt8} (hx : ev s x = .str a) (hy : ev s y = .str b) (h : a.length + b.length ≤ 9223372036854775807) : OpVal P s (.binOp .add t x y t') (.str (a ++ b)) := fun C w ac hs d ty pos af gu => by
  have hv := hs.ev x; rw [hx] at hv
  have hv2 := hs.ev y; rw [hy] at hv2
  generalize e1 : ac.eval x = v at hv
  generalize e2 : ac.eval y = v2 at hv2
  cases hv; cases hv2
  refine ⟨_, fun w' _ => ?_, .str _⟩
  have h1 : ¬ ((((⟨a.toArray⟩ : ByteArray).size + (⟨b.toArray⟩ : ByteArray).size : Nat) : Int) > IntKind.i64.max) := by
    rw [bytes_size, bytes_size]
    have : IntKind.i64.max = 9223372036854775807 := rfl
    omega
  simp only [execOp, e1, e2, eqGuard, binOp, Op.stringOp, if_neg h1, ByteArray.mk_append_mk]
  simp

end
end Go.Abs
