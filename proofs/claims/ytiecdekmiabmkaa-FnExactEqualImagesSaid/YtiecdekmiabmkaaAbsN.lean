/-
  Rows filled one place after another; states with rows compared.
-/
import Derived.Test.YtiecdekmiabmkaaAbsM
set_option linter.unusedVariables false
set_option linter.unusedSimpArgs false
namespace Go.Abs

theorem map_get {α β : Type} {f : α → β} {d : α} {l : List α} {i : Nat} (h : i < l.length) : (l.map f)[i]? = some (f (l.getD i d)) := by
  rw [List.getElem?_map, List.getElem?_eq_getElem h]
  simp [List.getD, List.getElem?_eq_getElem h]

theorem getD_mem {α : Type} {d : α} {l : List α} {i : Nat} (h : i < l.length) : l.getD i d ∈ l := by
  simp only [List.getD, List.getElem?_eq_getElem h, Option.getD_some]
  exact List.getElem_mem h

theorem take_next {α : Type} {d : α} {l : List α} {i : Nat} (h : i < l.length) : l.take (i + 1) = l.take i ++ [l.getD i d] := by
  rw [List.take_add_one, List.getElem?_eq_getElem h]
  simp [List.getD, List.getElem?_eq_getElem h]

def fill {α : Type} (e : α → List V) (z : List V) (l : List α) (i : Nat) : List (List V) := (l.take i).map e ++ List.replicate (l.length - i) z

section
variable {α : Type} {e : α → List V} {z : List V} {l : List α} {d : α} {i : Nat}
theorem fill_zero : fill e z l 0 = List.replicate l.length z := by simp [fill]
theorem fill_len (h : i ≤ l.length) : (fill e z l i).length = l.length := by simp [fill]; omega
theorem fill_get (h : i < l.length) : (fill e z l i)[i]? = some z := by
  unfold fill
  rw [List.getElem?_append_right (by simp; omega), List.getElem?_replicate, if_pos]
  simp only [List.length_map, List.length_take]
  omega
theorem fill_set (h : i < l.length) : (fill e z l i).set i (e (l.getD i d)) = fill e z l (i + 1) := by
  unfold fill
  rw [List.set_append_right _ _ (by simp; omega)]
  have e1 : l.take (i + 1) = l.take i ++ [l.getD i d] := by
    rw [List.take_add_one, List.getElem?_eq_getElem h]
    simp [List.getD, List.getElem?_eq_getElem h]
  have e2 : i - ((l.take i).map e).length = 0 := by simp; omega
  have e3 : l.length - i = (l.length - (i + 1)) + 1 := by omega
  rw [e1, e2, e3, List.replicate_succ]
  simp
theorem fill_all : fill e z l l.length = l.map e := by simp [fill]
end

section
variable {P : Program} {T : List TI} {s : St} {ops : Array Oper} {d : Option Nat} {ty : Nat} {pos : String} {af : Array Edge} {gu : Option (Nat × Bool)} {r : List Oper} {K : St → Prop} {s1 : St}

theorem he_nil {n : Nat} : HeapLe s n [] := trivial
theorem he_cons {n u sz : Nat} {rows rows' : List (List V)} {l : List (Nat × HB)} (h : hget s.heap u = some ⟨sz, rows'⟩) (hr : rows' = rows) (hu : Nat.blt u n = true) (ho : ∀ row ∈ rows, RowOk n row) (t : HeapLe s n l) : HeapLe s n ((u, ⟨sz, rows⟩) :: l) := by
  subst hr
  exact ⟨⟨h, by simpa using hu, ho⟩, t⟩

theorem down_all {s2 : St} (he : EnvLe s s2.nx s2.env) (hh : HeapLe s s2.nx s2.heap) (hx : Nat.ble s2.nx s.nx = true) (h2 : Nat.blt 2 s2.nx = true) (hn : s2.n = s.n) (hl : s2.lv = []) : Down s s2 :=
  ⟨he, hh, by simpa using hx, by simpa using h2, hn, fun l h => by rw [hl] at h; simp at h⟩

theorem fill_ok {α : Type} {e : α → List V} {z : List V} {l : List α} {i n : Nat} (he : ∀ x, RowOk n (e x)) (hz : RowOk n z) : ∀ row ∈ fill e z l i, RowOk n row := fun row h => by
  unfold fill at h
  rcases List.mem_append.1 h with h | h
  · obtain ⟨x, _, rfl⟩ := List.mem_map.1 h
    exact he x
  · rw [List.eq_of_mem_replicate h]; exact hz

def boolT (T : List TI) (t : Nat) : Bool := match T[t]? with | some ti => (match ti.kind with | .bool => true | _ => false) | none => false
theorem boolT_spec {t : Nat} (hT : TabOK P T) (h : boolT T t = true) : P.underlying t = some .bool := by
  unfold boolT at h
  split at h
  · rename_i ti ht
    split at h
    · rename_i hk
      obtain ⟨rfl, _, h1⟩ := hT t ti ht
      simp only [tiOf, tkOf] at hk
      split at hk <;> simp_all
    · simp at h
  · simp at h

theorem run_equalIn_bool {t : Nat} (hu : P.underlying t = some .bool) (a b : Bool) (w : World) (n : Nat) : (Op.equalIn (n + 1) t (.bool a) (.bool b)).run P w = .ok (decide (a = b)) w := by
  simp only [Op.equalIn, Sem.run_bind, run_underlying hu, Result.andThen_ok, Sem.run_pure]
  cases a <;> cases b <;> rfl
theorem run_equal_bool {t : Nat} (hu : P.underlying t = some .bool) (a b : Bool) (w : World) : (Op.equal t (.bool a) (.bool b)).run P w = .ok (decide (a = b)) w :=
  run_equalIn_bool hu a b w 9999

/-- Two answers compared. -/
theorem ov_beq {t t' : Nat} {x y : Operand} {a b : Bool} (hT : TabOK P T) (ht : boolT T t = true) (hx : ev s x = .bool a) (hy : ev s y = .bool b) : OpVal P s (.binOp .eql t x y t') (.bool (decide (a = b))) := fun C w ac hs d ty pos af gu => by
  have hv := hs.ev x; rw [hx] at hv
  have hv2 := hs.ev y; rw [hy] at hv2
  generalize e1 : ac.eval x = v at hv
  generalize e2 : ac.eval y = v2 at hv2
  cases hv; cases hv2
  refine ⟨_, fun w' _ => ?_, .bool _⟩
  simp [execOp, e1, e2, eqGuard, binOp, run_equal_bool (boolT_spec hT ht)]
theorem ov_bne {t t' : Nat} {x y : Operand} {a b : Bool} (hT : TabOK P T) (ht : boolT T t = true) (hx : ev s x = .bool a) (hy : ev s y = .bool b) : OpVal P s (.binOp .neq t x y t') (.bool (!decide (a = b))) := fun C w ac hs d ty pos af gu => by
  have hv := hs.ev x; rw [hx] at hv
  have hv2 := hs.ev y; rw [hy] at hv2
  generalize e1 : ac.eval x = v at hv
  generalize e2 : ac.eval y = v2 at hv2
  cases hv; cases hv2
  refine ⟨_, fun w' _ => ?_, .bool _⟩
  simp [execOp, e1, e2, eqGuard, binOp, run_equal_bool (boolT_spec hT ht)]

/-- The length of a slice that is a list written out. -/
theorem ov_mlen {α : Type} {en : α → List V} {l : List α} {lb sz t e sz' : Nat} {x : Operand} (hT : TabOK P T) (ht : elemT T t = some (e, sz')) (hx : ev s x = .psl lb sz (l.map en)) (hl : s.live lb = true) :
    OpVal P s (.call ⟨.builtin .len, ⟨[x]⟩, ⟨[t]⟩⟩) (.int .i64 l.length) := by
  refine ov_step (T := T) hT ?_
  unfold elemT at ht
  unfold pstep
  simp only
  split at ht
  · rename_i ti hti
    rw [hti]
    simp only
    split at ht
    · rename_i e' hk
      rw [hx]
      simp only [hk, lenV, hl, cond_true, List.length_map]
    · simp at ht
  · simp at ht

/-- A new row, to be filled. -/
theorem s_fmake {α : Type} {en : α → List V} {z : List V} {l : List α} {t e : Nat} {kd : TK} {sz bts : Nat} {ag : Bool} {x y : Operand} (hT : TabOK P T) (hg : gd ops.toList s gu = some true) (ht : elemI T t = some (e, ⟨kd, sz, bts, z, ag⟩)) (hx : ev s x = .int .i64 (l.length : Nat)) (hy : ev s y = .int .i64 (l.length : Nat))
    (hz : z.length = sz ∧ sz ≠ 0) (h0 : bts * l.length ≤ 281474976710656 ∧ l.length ≤ 281474976710656)
    (hp : s.newH sz (fill en z l 0) l.length d = some s1) (h : AOps P ops r s1 K) :
    AOps P ops (⟨d, .makeSlice t x y, ty, pos, af, gu⟩ :: r) s K := by
  refine s_make hT hg ht hx hy hz ⟨by omega, ?_, by omega⟩ ?_ h
  · have := h0.1
    have e1 : ((bts * l.length : Nat) : Int) = (bts : Int) * (l.length : Int) := by simp
    omega
  · rw [← hp, fill_zero]
    rfl

theorem ov_faddr {α : Type} {en : α → List V} {z : List V} {l : List α} {j i : Nat} {t u sz : Nat} {x y : Operand} {e : Nat} {k : IntKind} (hT : TabOK P T) (ht : elemT T t = some (e, sz)) (hx : ev s x = .hsl u 0 l.length) (hu : hget s.heap u = some ⟨sz, fill en z l j⟩)
    (hj : j ≤ l.length) (hi : ev s y = .int k (i : Nat)) (h0 : i < l.length) : OpVal P s (.indexAddr t x y) (.ptr u l.length i 0) := by
  have := ov_haddr (x := x) (i := y) (n := (i : Nat)) hT ht hx hu (by rw [fill_len hj]; simp) hi ⟨by omega, by omega⟩
  rw [fill_len hj] at this
  simpa using this

theorem s_fstore {α : Type} {en : α → List V} {z : List V} {l : List α} {dv : α} {i : Nat} {t u sz : Nat} {y zz : Operand} {ti : TI} {cs : List V} (hT : TabOK P T)
    (hg : gd ops.toList s gu = some true) (ht : T[t]? = some ti) (hy : ev s y = .ptr u l.length i 0) (hu : hget s.heap u = some ⟨sz, fill en z l i⟩) (hlt : i < l.length)
    (hc : cellsV s (ev s zz) = some cs) (hone : cs.all (oneV s) = true) (hsz : ti.size = cs.length) (hzl : cs.length = z.length) (hcs : cs = en (l.getD i dv))
    (h : AOps P ops r (s.wr u ⟨sz, fill en z l (i + 1)⟩) K) : AOps P ops (⟨none, .store t y zz, ty, pos, af, gu⟩ :: r) s K := by
  refine aops_store (hb := ⟨sz, fill en z l i⟩) hT hg ht hy hu (fill_len (Nat.le_of_lt hlt)).symm (fill_get hlt) hc hone hsz (by omega) ?_
  have e1 : List.take 0 z ++ cs ++ List.drop (0 + cs.length) z = en (l.getD i dv) := by
    rw [Nat.zero_add, hzl, List.drop_length, List.append_nil, hcs]; rfl
  show AOps P ops r (s.wr u ⟨sz, (fill en z l i).set i (List.take 0 z ++ cs ++ List.drop (0 + cs.length) z)⟩) K
  rw [e1, fill_set hlt]
  exact h

end

theorem rlR_map {α : Type} {f : Nat → Nat} {e : α → List V} (he : ∀ x, V.rlL f (e x) = e x) (l : List α) : V.rlR f (l.map e) = l.map e := by
  induction l with
  | nil => rfl
  | cons x l ih => simp only [List.map_cons, V.rlR, he, ih]

theorem rl_psl {α : Type} {f : Nat → Nat} {e : α → List V} {lb lb' sz : Nat} {l : List α} (he : ∀ x, V.rlL f (e x) = e x) (hl : f lb = lb') : V.rl f (.psl lb sz (l.map e)) = .psl lb' sz (l.map e) := by
  simp only [V.rl, rlR_map he, hl]

theorem rlL_nil {f : Nat → Nat} : V.rlL f [] = [] := rfl
theorem rlL_cons {f : Nat → Nat} {x y : V} {xs ys : List V} (h : V.rl f x = y) (t : V.rlL f xs = ys) : V.rlL f (x :: xs) = y :: ys := by simp only [V.rlL, h, t]

end Go.Abs
