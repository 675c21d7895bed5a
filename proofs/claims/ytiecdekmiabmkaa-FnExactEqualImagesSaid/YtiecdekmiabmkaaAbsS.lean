/-
  Own rows that are a list written out: places, reads, writes.
-/
import Derived.Test.YtiecdekmiabmkaaAbsR
set_option linter.unusedVariables false
set_option linter.unusedSimpArgs false
namespace Go.Abs

section
variable {P : Program} {T : List TI} {s : St} {ops : Array Oper} {d : Option Nat} {ty : Nat} {pos : String} {af : Array Edge} {gu : Option (Nat × Bool)} {r : List Oper} {K : St → Prop} {s1 : St}

theorem ov_maddr {α : Type} {en : α → List V} {l : List α} {t u sz len : Nat} {x y : Operand} {e : Nat} {k : IntKind} {n : Int} (hT : TabOK P T) (ht : elemT T t = some (e, sz)) (hx : ev s x = .hsl u 0 len) (hu : hget s.heap u = some ⟨sz, l.map en⟩) (hlen : len = l.length)
    (hi : ev s y = .int k n) (h0 : 0 ≤ n ∧ n < l.length) : OpVal P s (.indexAddr t x y) (.ptr u l.length n.toNat 0) := by
  subst hlen
  have := ov_haddr (x := x) (i := y) (n := n) hT ht hx hu (by simp) hi ⟨h0.1, by omega⟩
  simpa using this

theorem ov_mhlen {α : Type} {en : α → List V} {l : List α} {t u sz len e sz' : Nat} {x : Operand} (hT : TabOK P T) (ht : elemT T t = some (e, sz')) (hx : ev s x = .hsl u 0 len) (hu : hget s.heap u = some ⟨sz, l.map en⟩) (hlen : len = l.length) :
    OpVal P s (.call ⟨.builtin .len, ⟨[x]⟩, ⟨[t]⟩⟩) (.int .i64 l.length) := by
  subst hlen
  exact ov_hlen hT ht hx hu (by simp)

/-- A row of a list read. -/
theorem ov_mload {α : Type} {en : α → List V} {l : List α} {dv : α} {t u sz i off : Nat} {y : Operand} {ti : TI} {x : V} (hT : TabOK P T) (ht : T[t]? = some ti) (hy : ev s y = .ptr u l.length i off) (hu : hget s.heap u = some ⟨sz, l.map en⟩) (hi : i < l.length)
    (hl : loadRow ti (en (l.getD i dv)) off = some x) : OpVal P s (.load t y) x := by
  refine ov_step (T := T) hT ?_
  simp only [pstep, ht, hy, hu, List.length_map, Nat.beq_refl, cond_true]
  rw [map_get (d := dv) hi]
  exact hl

/-- A row of a list written. -/
theorem s_mstore {α : Type} {en : α → List V} {l : List α} {v : α} {i : Nat} {t u sz : Nat} {y zz : Operand} {ti : TI} {cs : List V} (hT : TabOK P T)
    (hg : gd ops.toList s gu = some true) (ht : T[t]? = some ti) (hy : ev s y = .ptr u l.length i 0) (hu : hget s.heap u = some ⟨sz, l.map en⟩) (hlt : i < l.length)
    (hc : cellsV s (ev s zz) = some cs) (hone : cs.all (oneV s) = true) (hsz : ti.size = cs.length) (hcs : cs = en v) (hen : ∀ a : α, (en a).length = cs.length)
    (h : AOps P ops r (s.wr u ⟨sz, (l.set i v).map en⟩) K) : AOps P ops (⟨none, .store t y zz, ty, pos, af, gu⟩ :: r) s K := by
  have hrow : (l.map en)[i]? = some (en l[i]) := by rw [List.getElem?_map, List.getElem?_eq_getElem hlt]; rfl
  refine aops_store (hb := ⟨sz, l.map en⟩) hT hg ht hy hu (by simp) hrow hc hone hsz (by rw [hen]; omega) ?_
  have e1 : List.take 0 (en l[i]) ++ cs ++ List.drop (0 + cs.length) (en l[i]) = en v := by
    rw [Nat.zero_add, ← hen l[i], List.drop_length, List.append_nil, hcs]; rfl
  show AOps P ops r (s.wr u ⟨sz, (l.map en).set i (List.take 0 (en l[i]) ++ cs ++ List.drop (0 + cs.length) (en l[i]))⟩) K
  rw [e1, ← List.map_set]
  exact h

/-- 'make([]T, n)' as a list of one value. -/
theorem s_lmake {α : Type} {en : α → List V} {z : List V} {v : α} {t e : Nat} {kd : TK} {sz bts : Nat} {ag : Bool} {x y : Operand} {n : Nat} (hT : TabOK P T) (hg : gd ops.toList s gu = some true) (ht : elemI T t = some (e, ⟨kd, sz, bts, z, ag⟩)) (hx : ev s x = .int .i64 (n : Nat)) (hy : ev s y = .int .i64 (n : Nat))
    (hz : z.length = sz ∧ sz ≠ 0) (hv : en v = z) (h0 : bts * n ≤ 281474976710656 ∧ n ≤ 281474976710656)
    (hp : s.newH sz ((List.replicate n v).map en) n d = some s1) (h : AOps P ops r s1 K) :
    AOps P ops (⟨d, .makeSlice t x y, ty, pos, af, gu⟩ :: r) s K := by
  refine s_make hT hg ht hx hy hz ⟨by omega, ?_, by omega⟩ ?_ h
  · have := h0.1
    have e1 : ((bts * n : Nat) : Int) = (bts : Int) * (n : Int) := by simp
    omega
  · rw [← hp, List.map_replicate, hv]
    rfl

def intEnc (n : Int) : List V := [.int .i64 n]
theorem rl_int {f : Nat → Nat} (n : Int) : V.rlL f (intEnc n) = intEnc n := rfl
theorem int_rows {n : Nat} {l : List Int} : ∀ row ∈ l.map intEnc, RowOk n row := fun row h => by
  obtain ⟨x, _, rfl⟩ := List.mem_map.1 h
  exact ⟨rfl, trivial⟩

/-! ### Loops gone through round by round -/
def AL (P : Program) (c : Code) (s : St) (K : Exit → St → Prop) : Prop :=
  ∀ C w a, StRep C w a s → ∀ b k cs, ∃ e a' w', Post C w K e a' w' ∧ Arrives P (lone (b.at a (.code c :: .inLoop c :: k)) cs w) b k cs e a' w'

theorem at_enter {c : Code} {K : Exit → St → Prop} (h : AL P c s K) : AT P (.loop c) s K := by
  intro C w a hs b k cs
  obtain ⟨e, a', w', hq, harr⟩ := h C w a hs b k cs
  exact ⟨e, a', w', hq, .of_steps (.one step_loop) harr⟩

theorem al_round {c : Code} {K : Exit → St → Prop} (h : AT P c s (thenK (fun s' => AL P c s' K) K)) : AL P c s K := by
  intro C w a hs b k cs
  obtain ⟨e, a1, w1, hq, harr⟩ := h C w a hs b (.inLoop c :: k) cs
  cases e with
  | normal =>
    obtain ⟨C1, s1, g1, g2, g3⟩ := hq
    obtain ⟨e3, a2, w2, hq2, harr2⟩ := g3 C1 w1 a1 g1 b k cs
    exact ⟨e3, a2, w2, post_step g2 hq2, .of_steps (Steps.trans harr (.one step_inLoop)) harr2⟩
  | exit id => exact ⟨_, a1, w1, hq, .pass (x := .inLoop c) rfl (fun _ _ => .inl (by simp)) harr⟩
  | goto l => exact ⟨_, a1, w1, hq, .pass (x := .inLoop c) rfl (fun _ _ => .inl (by simp)) harr⟩
  | ret => exact ⟨_, a1, w1, hq, .pass (x := .inLoop c) rfl (fun _ _ => .inl (by simp)) harr⟩
  | panic ch => exact ⟨_, a1, w1, hq, .pass (x := .inLoop c) rfl (fun _ _ => .inl (by simp)) harr⟩
  | outgrown => exact ⟨_, a1, w1, hq, .pass (x := .inLoop c) rfl (fun _ _ => .inl (by simp)) harr⟩

end
end Go.Abs
