/-
  Contracts for arguments that say more; quotients and remainders; a byte as a number.
-/
import Derived.Test.YtiecdekmiabmkaaAbsP
set_option linter.unusedVariables false
set_option linter.unusedSimpArgs false
namespace Go.Abs

/-- Whatever is represented by x is represented by y. -/
def VLe (x y : V) : Prop := ∀ (C : Ctx) (w : World) (v : Value), Rep C w v x → Rep C w v y
theorem vle_refl (x : V) : VLe x x := fun _ _ _ h => h
theorem vle_nil (l sz : Nat) : VLe .nilsl (.psl l sz []) := fun C w v h => by cases h; exact .psl0 _ _ _ _
inductive VLeL : List V → List V → Prop
  | nil : VLeL [] []
  | cons {x y : V} {xs ys : List V} (h : VLe x y) (t : VLeL xs ys) : VLeL (x :: xs) (y :: ys)
theorem vleL_refl : ∀ l : List V, VLeL l l
  | [] => .nil
  | x :: l => .cons (vle_refl x) (vleL_refl l)
theorem VLeL.rep {C : Ctx} {w : World} : ∀ {xs ys : List V}, VLeL xs ys → ∀ {vs : List Value}, RepL C w vs xs → RepL C w vs ys
  | _, _, .nil, _, .nil => .nil
  | _, _, .cons h t, _, .cons hv ht => .cons (h _ _ _ hv) (t.rep ht)
theorem vle_agg {xs ys : List V} (h : VLeL xs ys) : VLe (.agg xs) (.agg ys) := fun C w v hv => by
  cases hv with | agg hl => exact .agg (h.rep hl)
theorem vle_tup {xs ys : List V} (h : VLeL xs ys) : VLe (.tup xs) (.tup ys) := fun C w v hv => by
  cases hv with | tup hl => exact .tup (h.rep hl)

theorem FC.weaken {P : Program} {f : FuncId} {args args' : List V} {h : List (Nat × HB)} {nx : Nat} {R : V → List (Nat × HB) → Prop} (hc : FC P f args h nx R) (hl : VLeL args' args) : FC P f args' h nx R :=
  ⟨hc.1, fun C w cargs h1 h2 h3 => hc.2 C w cargs h1 h2 (hl.rep h3)⟩
/-- It is enough that what is handed back says as much. -/
theorem FC.of_le {P : Program} {f : FuncId} {args : List V} {h : List (Nat × HB)} {nx : Nat} {x : V} (hc : FC P f args h nx (fun y _ => VLe y x)) : FC P f args h nx (fun y _ => y = x) :=
  ⟨hc.1, fun C w cargs h1 h2 h3 => (hc.2 C w cargs h1 h2 h3).mono fun _ _ ⟨v, C', _, h', e1, e2, e3, e4, e5⟩ => ⟨v, C', x, h', e1, e2, e5 _ _ _ e3, e4, rfl⟩⟩

section
variable {P : Program} {T : List TI} {s : St}

theorem ret_le {rs : List ResultVar} {r x : V} (h : resV T s rs = some r) (hR : VLe r x) : retK T rs (fun y _ => VLe y x) .ret s := ⟨r, h, hR⟩

theorem ov_rem {t t' : Nat} {x y : Operand} {k : IntKind} {a b : Int} (hx : ev s x = .int k a) (hy : ev s y = .int k b) (h : 0 ≤ a ∧ 0 < b) : OpVal P s (.binOp .rem t x y t') (.int k (a % b)) := fun C w ac hs d ty pos af gu => by
  have hv := hs.ev x; rw [hx] at hv
  have hv2 := hs.ev y; rw [hy] at hv2
  generalize e1 : ac.eval x = v at hv
  generalize e2 : ac.eval y = v2 at hv2
  cases hv; cases hv2
  refine ⟨_, fun w' _ => ?_, .int _ _⟩
  have hb : ¬ b = 0 := by omega
  simp [execOp, e1, e2, eqGuard, binOp, Op.intDiv, hb, Int.tmod_eq_emod_of_nonneg h.1]

theorem ov_quo {t t' : Nat} {x y : Operand} {a b : Int} (hx : ev s x = .int .i64 a) (hy : ev s y = .int .i64 b) (h : 0 ≤ a ∧ a ≤ 9223372036854775807 ∧ 0 < b) : OpVal P s (.binOp .quo t x y t') (.int .i64 (a / b)) := fun C w ac hs d ty pos af gu => by
  have hv := hs.ev x; rw [hx] at hv
  have hv2 := hs.ev y; rw [hy] at hv2
  generalize e1 : ac.eval x = v at hv
  generalize e2 : ac.eval y = v2 at hv2
  cases hv; cases hv2
  refine ⟨_, fun w' _ => ?_, .int _ _⟩
  have hb : ¬ b = 0 := by omega
  have hq : IntKind.i64.wrap (a / b) = a / b := wrap64_id ⟨by have := Int.ediv_nonneg h.1 (Int.le_of_lt h.2.2); omega, by have := Int.ediv_le_self b h.1; omega⟩
  simp [execOp, e1, e2, eqGuard, binOp, Op.intDiv, hb, Int.tdiv_eq_ediv_of_nonneg h.1, hq]

theorem ov_max {x y : Operand} {tys : Array TypeId} {k k' : IntKind} {a b : Int} (hx : ev s x = .int k a) (hy : ev s y = .int k' b) : OpVal P s (.call ⟨.builtin .max, ⟨[x, y]⟩, tys⟩) (.int k (max a b)) := fun C w ac hs d ty pos af gu => by
  have hv := hs.ev x; rw [hx] at hv
  have hv2 := hs.ev y; rw [hy] at hv2
  generalize e1 : ac.eval x = v at hv
  generalize e2 : ac.eval y = v2 at hv2
  cases hv; cases hv2
  refine ⟨_, fun w' _ => ?_, .int _ _⟩
  have e : (if b > a then b else a) = max a b := by split <;> omega
  simp [execOp, resolve, invoke, builtin, e1, e2, Builtin.max_, Builtin.max2, e]

/-- A number as an integer. -/
theorem ov_toInt {t t' : Nat} {x : Operand} {k k0 : IntKind} {n : Int} (hT : TabOK P T) (h0 : convK T t = some k0) (h1 : convK T t' = some .i64) (hx : ev s x = .int k n) (h : -9223372036854775808 ≤ n ∧ n ≤ 9223372036854775807) : OpVal P s (.convert t t' x) (.int .i64 n) :=
  ov_step (T := T) hT (by simp only [pstep, h0, h1, hx, wrap64_id h])

end
end Go.Abs
