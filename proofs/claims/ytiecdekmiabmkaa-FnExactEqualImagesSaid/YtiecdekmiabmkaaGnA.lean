/-
  Codecs of plain things; the option-valued programs; rules that read both.
-/
import Derived.Test.YtiecdekmiabmkaaAbsT
set_option linter.unusedVariables false
set_option linter.unusedSimpArgs false
namespace Go.Abs

/-! ### Programs with an answer or none -/
def chk {α : Type} (p : Prop) [Decidable p] (x : Option α) : Option α := if p then x else none
theorem chk_some {α : Type} {p : Prop} [Decidable p] {x : Option α} {r : α} (h : chk p x = some r) : p ∧ x = some r := by
  unfold chk at h
  split at h
  · exact ⟨by assumption, h⟩
  · cases h
theorem chk_t {α : Type} {p : Prop} [Decidable p] {x : Option α} (h : p) : chk p x = x := if_pos h
def bnd {α β : Type} (x : Option α) (f : α → Option β) : Option β := match x with | some a => f a | none => none
theorem bnd_some {α β : Type} {x : Option α} {f : α → Option β} {r : β} (h : bnd x f = some r) : ∃ a, x = some a ∧ f a = some r := by
  unfold bnd at h
  split at h
  · exact ⟨_, rfl, h⟩
  · cases h
@[simp] theorem bnd_eq {α β : Type} {a : α} {f : α → Option β} : bnd (some a) f = f a := rfl
@[simp] theorem bnd_none {α β : Type} {f : α → Option β} : bnd none f = none := rfl
def nth {α : Type} (l : List α) (i : Int) : Option α := if 0 ≤ i then l[i.toNat]? else none
theorem nth_spec {α : Type} {l : List α} {i : Int} {x : α} (h : nth l i = some x) : 0 ≤ i ∧ i < l.length ∧ l[i.toNat]? = some x := by
  unfold nth at h
  split at h
  · rename_i h0
    refine ⟨h0, ?_, h⟩
    rcases Nat.lt_or_ge i.toNat l.length with hl | hl
    · omega
    · simp [List.getElem?_eq_none hl] at h
  · cases h
theorem nth_nat {α : Type} (l : List α) (i : Nat) : nth l (i : Int) = l[i]? := by
  unfold nth; rw [if_pos (Int.natCast_nonneg i)]; rfl
abbrev I64 (x : Int) : Prop := -9223372036854775808 ≤ x ∧ x ≤ 9223372036854775807
def itr {σ R : Type} (body : (σ → Option R) → σ → Option R) : Nat → σ → Option R
  | 0, _ => none
  | k + 1, v => body (itr body k) v

/-! ### Codecs -/
structure Cd (α : Type) where
  sz : Nat
  enc : Nat → α → List V
  row : Nat → α → List V
  eq : ∀ l x, enc l x = row l x
  rl : ∀ (f : Nat → Nat) l x, V.rlL f (row l x) = row (f l) x
  len : ∀ l x, (row l x).length = sz
  one : ∀ (s : St) l x, Nat.ble l 1 = true → (row l x).all (oneV s) = true

section
variable {α : Type} (c : Cd α)
theorem Cd.map_eq (l : Nat) (xs : List α) : xs.map (c.enc l) = xs.map (c.row l) := by congr 1; funext x; exact c.eq l x
theorem Cd.rlR (f : Nat → Nat) (l : Nat) (xs : List α) : V.rlR f (xs.map (c.enc l)) = xs.map (c.enc (f l)) := by
  induction xs with
  | nil => rfl
  | cons x r ih => simp only [List.map_cons, V.rlR, ih, c.eq, c.rl]
theorem Cd.rl_agg (f : Nat → Nat) {l l' : Nat} (x : α) (h : f l = l') : V.rl f (.agg (c.row l x)) = .agg (c.row l' x) := by subst h; simp only [V.rl, c.rl]
theorem Cd.rl_psl (f : Nat → Nat) {l l' : Nat} (xs : List α) {sz : Nat} (h : f l = l') : V.rl f (.psl l sz (xs.map (c.enc l))) = .psl l' sz (xs.map (c.enc l')) := by subst h; simp only [V.rl, c.rlR]

theorem ok_of_rl {n : Nat} {x : V} (h : x.rl cut2 = x) : Ok n x := by
  cases x <;> first | exact h | (simp [V.rl] at h)
theorem rowOk_of_rl {n : Nat} : ∀ {xs : List V}, V.rlL cut2 xs = xs → RowOk n xs
  | [], _ => trivial
  | x :: xs, h => by
    simp only [V.rlL, List.cons.injEq] at h
    exact ⟨ok_of_rl h.1, rowOk_of_rl h.2⟩
theorem Cd.row_ok {n l : Nat} (x : α) (h : cut2 l = l) : RowOk n (c.row l x) := rowOk_of_rl (by rw [c.rl, h])
theorem Cd.rows_ok {n l : Nat} (xs : List α) (h : cut2 l = l) : ∀ row ∈ xs.map (c.enc l), RowOk n row := fun row hr => by
  obtain ⟨x, _, rfl⟩ := List.mem_map.1 hr
  rw [c.eq]; exact c.row_ok x h
theorem Cd.ok_agg {n l : Nat} (x : α) (h : cut2 l = l) : Ok n (.agg (c.row l x)) := ok_of_rl (c.rl_agg cut2 x h)
theorem Cd.ok_psl {n l : Nat} (xs : List α) {sz : Nat} (h : cut2 l = l) : Ok n (.psl l sz (xs.map (c.enc l))) := ok_of_rl (c.rl_psl cut2 xs h)

mutual
theorem rn_of_rl (g : Nat → Option Nat) : ∀ {x : V}, x.rl cut2 = x → x.rn g = x
  | .agg cs, h => by
    simp only [V.rl, V.agg.injEq] at h
    simp only [V.rn, rnL_of_rl g h]
  | .tup cs, h => by
    simp only [V.rl, V.tup.injEq] at h
    simp only [V.rn, rnL_of_rl g h]
  | .hsl _ _ _, h => by simp [V.rl] at h
  | .ptr _ _ _ _, h => by simp [V.rl] at h
  | .int _ _, _ => rfl
  | .bool _, _ => rfl
  | .str _, _ => rfl
  | .psl _ _ _, h => h
  | .pptr _ _ _ _ _, h => h
  | .nilsl, _ => rfl
  | .nilp, _ => rfl
  | .fn _, _ => rfl
  | .junk, _ => rfl
theorem rnL_of_rl (g : Nat → Option Nat) : ∀ {xs : List V}, V.rlL cut2 xs = xs → V.rnL g xs = xs
  | [], _ => rfl
  | x :: xs, h => by
    simp only [V.rlL, List.cons.injEq] at h
    simp only [V.rnL, rn_of_rl g h.1, rnL_of_rl g h.2]
end
theorem Cd.rn_agg (g : Nat → Option Nat) {l : Nat} (x : α) (h : cut2 l = l) : V.rn g (.agg (c.row l x)) = .agg (c.row l x) := rn_of_rl g (c.rl_agg cut2 x h)
theorem Cd.rn_psl (g : Nat → Option Nat) {l : Nat} (xs : List α) {sz : Nat} (h : cut2 l = l) : V.rn g (.psl l sz (xs.map (c.enc l))) = .psl l sz (xs.map (c.enc l)) := rn_of_rl g (c.rl_psl cut2 xs h)
theorem Cd.rnR (g : Nat → Option Nat) {l : Nat} (xs : List α) (h : cut2 l = l) : Go.Abs.rnR g (xs.map (c.enc l)) = xs.map (c.enc l) := by
  unfold Go.Abs.rnR
  rw [List.map_map]
  refine List.map_congr_left fun x _ => ?_
  show V.rnL g (c.enc l x) = c.enc l x
  rw [c.eq]
  exact rnL_of_rl g (by rw [c.rl, h])
theorem Cd.ones (s : St) {l : Nat} (xs : List α) (h : Nat.ble l 1 = true) : ∀ row ∈ xs.map (c.enc l), row.all (oneV s) = true := fun row hr => by
  obtain ⟨x, _, rfl⟩ := List.mem_map.1 hr
  rw [c.eq]; exact c.one s l x h
end

@[reducible] def cInt : Cd Int where
  sz := 1
  enc _ n := [.int .i64 n]
  row _ n := [.int .i64 n]
  eq _ _ := rfl
  rl _ _ _ := rfl
  len _ _ := rfl
  one _ _ _ _ := rfl
@[reducible] def cStr : Cd (List UInt8) where
  sz := 1
  enc _ n := [.str n]
  row _ n := [.str n]
  eq _ _ := rfl
  rl _ _ _ := rfl
  len _ _ := rfl
  one _ _ _ _ := rfl
@[reducible] def cBool : Cd Bool where
  sz := 1
  enc _ n := [.bool n]
  row _ n := [.bool n]
  eq _ _ := rfl
  rl _ _ _ := rfl
  len _ _ := rfl
  one _ _ _ _ := rfl
@[reducible] def cByte : Cd UInt8 where
  sz := 1
  enc _ b := [.int .u8 b.toNat]
  row _ b := [.int .u8 b.toNat]
  eq _ _ := rfl
  rl _ _ _ := rfl
  len _ _ := rfl
  one _ _ _ _ := rfl
@[reducible] def cSl {α : Type} (c : Cd α) : Cd (List α) where
  sz := 1
  enc l xs := [.psl l c.sz (xs.map (c.enc l))]
  row l xs := [.psl l c.sz (xs.map (c.enc l))]
  eq _ _ := rfl
  rl f l xs := by simp only [V.rlL, c.rl_psl f xs rfl]
  len _ _ := rfl
  one s l xs h := by simp [oneV, St.live, h]

/-! ### Operations -/
section
variable {P : Program} {T : List TI} {s : St} {ops : Array Oper} {d : Option Nat} {ty : Nat} {pos : String} {af : Array Edge} {gu : Option (Nat × Bool)} {r : List Oper} {K : St → Prop} {s1 : St}
variable {α : Type}

theorem oc_addr (c : Cd α) {t e l : Nat} {x y : Operand} {xs : List α} {v : α} {k : IntKind} {n : Int} (hn : nth xs n = some v) (hT : TabOK P T) (ht : elemT T t = some (e, c.sz)) (hx : ev s x = .psl l c.sz (xs.map (c.enc l))) (hl : s.live l = true) (hi : ev s y = .int k n) :
    OpVal P s (.indexAddr t x y) (.pptr l c.sz [c.row l v] 0 0) :=
  ov_addr hT ht hx hl hi (nth_spec hn).1 (by rw [List.getElem?_map, (nth_spec hn).2.2, ← c.eq]; rfl)
theorem oc_haddr (c : Cd α) {t u e l sz : Nat} {x y : Operand} {xs : List α} {v : α} {k : IntKind} {n : Int} (hn : nth xs n = some v) (hT : TabOK P T) (ht : elemT T t = some (e, sz)) (hx : ev s x = .hsl u 0 xs.length) (hu : hget s.heap u = some ⟨sz, xs.map (c.enc l)⟩) (hi : ev s y = .int k n) :
    OpVal P s (.indexAddr t x y) (.ptr u xs.length n.toNat 0) :=
  ov_maddr hT ht hx hu rfl hi ⟨(nth_spec hn).1, (nth_spec hn).2.1⟩
theorem oc_len (c : Cd α) {t e l sz sz' : Nat} {x : Operand} {xs : List α} (hT : TabOK P T) (ht : elemT T t = some (e, sz')) (hx : ev s x = .psl l sz (xs.map (c.enc l))) (hl : s.live l = true) :
    OpVal P s (.call ⟨.builtin .len, ⟨[x]⟩, ⟨[t]⟩⟩) (.int .i64 xs.length) := ov_mlen hT ht hx hl
theorem oc_hlen (c : Cd α) {t u e l sz sz' : Nat} {x : Operand} {xs : List α} (hT : TabOK P T) (ht : elemT T t = some (e, sz')) (hx : ev s x = .hsl u 0 xs.length) (hu : hget s.heap u = some ⟨sz, xs.map (c.enc l)⟩) :
    OpVal P s (.call ⟨.builtin .len, ⟨[x]⟩, ⟨[t]⟩⟩) (.int .i64 xs.length) := ov_mhlen hT ht hx hu rfl
theorem oc_load (c : Cd α) {t u sz l off : Nat} {y : Operand} {ti : TI} {x : V} {xs : List α} {v : α} {n : Int} (hn : nth xs n = some v) (hT : TabOK P T) (ht : T[t]? = some ti) (hy : ev s y = .ptr u xs.length n.toNat off) (hu : hget s.heap u = some ⟨sz, xs.map (c.enc l)⟩)
    (hl : loadRow ti (c.row l v) off = some x) : OpVal P s (.load t y) x := by
  obtain ⟨h1, h2, h3⟩ := nth_spec hn
  refine ov_mload (dv := v) hT ht hy hu (by omega) ?_
  simp only [List.getD, h3, Option.getD_some, c.eq]
  exact hl
theorem oc_byte {t : Nat} {x i : Operand} {l : List UInt8} {k : IntKind} {n : Int} {b : UInt8} (hn : nth l n = some b) (hT : TabOK P T) (ht : strT T t = true) (hx : ev s x = .str l) (hi : ev s i = .int k n) : OpVal P s (.index t x i) (.int .u8 b.toNat) := by
  obtain ⟨h1, h2, h3⟩ := nth_spec hn
  have := ov_byte (s := s) hT ht hx hi ⟨h1, h2⟩
  simp only [List.getD, h3, Option.getD_some] at this
  exact this

/-- A cell or more of an element of a list row written. -/
theorem sc_store (c : Cd α) {t u sz l off : Nat} {y zz : Operand} {ti : TI} {cs : List V} {xs : List α} {v v' : α} {n : Int} (hn : nth xs n = some v) (hT : TabOK P T)
    (hg : gd ops.toList s gu = some true) (ht : T[t]? = some ti) (hy : ev s y = .ptr u xs.length n.toNat off) (hu : hget s.heap u = some ⟨sz, xs.map (c.enc l)⟩)
    (hc : cellsV s (ev s zz) = some cs) (hone : cs.all (oneV s) = true) (hsz : ti.size = cs.length) (hput : putAt (c.row l v) off cs = some (c.row l v'))
    (h : AOps P ops r (s.wr u ⟨sz, (xs.set n.toNat v').map (c.enc l)⟩) K) : AOps P ops (⟨none, .store t y zz, ty, pos, af, gu⟩ :: r) s K := by
  obtain ⟨h1, h2, h3⟩ := nth_spec hn
  obtain ⟨p1, p2⟩ := putAt_spec hput
  refine aops_store (hb := ⟨sz, xs.map (c.enc l)⟩) (row := c.row l v) hT hg ht hy hu (by simp) (by rw [List.getElem?_map, h3, ← c.eq]; rfl) hc hone hsz p2 ?_
  rw [← p1, ← c.eq, ← List.map_set]
  exact h

theorem sc_append (c : Cd α) {t tx e u l : Nat} {kd : TK} {sz bts : Nat} {z0 : List V} {ag : Bool} {x y : Operand} {xs ys : List α} (hb : (xs.length + ys.length) * bts ≤ 140737488355328) (hbts : Nat.beq bts 0 = false) (hT : TabOK P T) (hg : gd ops.toList s gu = some true) (ht : elemI T t = some (e, ⟨kd, sz, bts, z0, ag⟩)) (htx : notIntT T tx = true) (hz : Nat.beq z0.length sz = true) (hz0 : Nat.beq sz 0 = false)
    (hx : ev s x = .hsl u 0 xs.length) (hu : hget s.heap u = some ⟨sz, xs.map (c.enc l)⟩) (hsrc : ∀ C w a, StRep C w a s → ∃ news, Src P C w sz (ys.map (c.enc l)) (a.eval y) news)
    (hp : (s.wr u ⟨sz, (xs ++ ys).map (c.enc l)⟩).put d (.hsl u 0 (xs ++ ys).length) = some s1) (h : AOps P ops r s1 K) :
    AOps P ops (⟨d, .call ⟨.builtin .append, ⟨[x, y]⟩, ⟨[t, tx]⟩⟩, ty, pos, af, gu⟩ :: r) s K := by
  have hb1 : 1 ≤ bts := by rcases Nat.eq_zero_or_pos bts with e | e; · simp [e] at hbts
                           · exact e
  have hle : xs.length + ys.length ≤ (xs.length + ys.length) * bts := Nat.le_mul_of_pos_right _ hb1
  refine s_append hT hg ht htx ⟨Nat.eq_of_beq_eq_true hz, fun e => by simp [e] at hz0⟩ hx hu (by simp) hsrc ⟨by simpa using hb, by simp; omega⟩ ?_ h
  rw [← hp, List.map_append]
  simp

theorem srcC_psl (c : Cd α) {l : Nat} {ys : List α} {y : Operand} (hy : ev s y = .psl l c.sz (ys.map (c.enc l))) (hl : s.live l = true) (h1 : Nat.ble l 1 = true) : ∀ C w a, StRep C w a s → ∃ news, Src P C w c.sz (ys.map (c.enc l)) (a.eval y) news :=
  fun C w a hs => src_psl hs hy hl (c.ones s ys h1)
theorem srcC_hsl (c : Cd α) {l u : Nat} {ys : List α} {y : Operand} (hy : ev s y = .hsl u 0 ys.length) (hu : hget s.heap u = some ⟨c.sz, ys.map (c.enc l)⟩) (h1 : Nat.ble l 1 = true) : ∀ C w a, StRep C w a s → ∃ news, Src P C w c.sz (ys.map (c.enc l)) (a.eval y) news :=
  fun C w a hs => src_hsl hs hy hu (by simp) (c.ones s ys h1)
theorem srcC_str {ys : List UInt8} {y : Operand} (hy : ev s y = .str ys) : ∀ C w a, StRep C w a s → ∃ news, Src P C w 1 (ys.map (cByte.enc 0)) (a.eval y) news :=
  fun C w a hs => src_str hs hy
theorem srcC_nil {sz : Nat} {y : Operand} (hy : ev s y = .nilsl) {e : α → List V} : ∀ C w a, StRep C w a s → ∃ news, Src P C w sz (([] : List α).map e) (a.eval y) news := fun C w a hs => by
  have hv := hs.ev y; rw [hy] at hv
  generalize a.eval y = v at hv
  cases hv
  exact ⟨[], src_none C w sz none 0⟩

theorem sc_slit (c : Cd α) {t e n l : Nat} {kd : TK} {sz bts : Nat} {z0 : List V} {ag : Bool} {parts : List (Nat × Operand)} (xs : List α) (hT : TabOK P T) (hg : gd ops.toList s gu = some true) (ht : elemI T t = some (e, ⟨kd, sz, bts, z0, ag⟩)) (hz : z0.isEmpty = false)
    (hr : rowsV s sz 0 parts = some (xs.map (c.row l))) (hn : Nat.beq xs.length n = true) (hb : Nat.ble (n * sz) 16777216 = true)
    (hp : s.newH sz (xs.map (c.enc l)) xs.length d = some s1) (h : AOps P ops r s1 K) :
    AOps P ops (⟨d, .buildSlice t n ⟨parts⟩, ty, pos, af, gu⟩ :: r) s K := by
  rw [c.map_eq] at hp
  have e := Nat.eq_of_beq_eq_true hn
  rw [e] at hp
  exact s_slit hT hg ht hz hr (by simpa using hn) hb hp h

/-- So many operations that only compute. -/
def xk (T : List TI) (l : List Oper) : Nat → List Oper → St → XR
  | 0, r, s => .at s r
  | k + 1, o :: r, s => match xstep T l s o with
    | some s' => xk T l k r s'
    | none => .no
  | _ + 1, [], s => .no
theorem sxk_spec (hT : TabOK P T) : ∀ (k : Nat) {l : List Oper} {s s' : St} {r : List Oper}, xk T ops.toList k l s = .at s' r → AOps P ops r s' K → AOps P ops l s K
  | 0, l, s, s', r, h, g => by
    simp only [xk, XR.at.injEq] at h
    obtain ⟨rfl, rfl⟩ := h
    exact g
  | k + 1, [], s, s', r, h, g => by simp [xk] at h
  | k + 1, o :: l, s, s', r, h, g => by
    unfold xk at h
    split at h
    · rename_i s1 h1
      exact sx hT h1 (sxk_spec hT k h g)
    · cases h
theorem sxk (k : Nat) {l : List Oper} {s' : St} {r : List Oper} (hT : TabOK P T) (hx : xk T ops.toList k l s = .at s' r) (h : AOps P ops r s' K) : AOps P ops l s K := sxk_spec hT k hx h
end

/-! ### Code -/
section
variable {P : Program} {s : St} {K : Exit → St → Prop}

theorem ct_if {t : Nat} {x y : Code} {p : Prop} [Decidable p] {R : Type} {e1 e2 : Option R} {q : R} (hF : (if p then e1 else e2) = some q) (hc : eget s.env t = .bool (decide p)) (ht : p → e1 = some q → AT P x (s.ovr t (.bool true)) K) (hf : ¬p → e2 = some q → AT P y (s.ovr t (.bool false)) K) : AT P (.cond (.tmp t) x y) s K :=
  at_iftd hc (fun h => ht h (by rwa [if_pos h] at hF)) (fun h => hf h (by rwa [if_neg h] at hF))
theorem ct_ifn {t : Nat} {x y : Code} {p : Prop} [Decidable p] {R : Type} {e1 e2 : Option R} {q : R} (hF : (if p then e1 else e2) = some q) (hc : eget s.env t = .bool (!decide p)) (ht : ¬p → e2 = some q → AT P x (s.ovr t (.bool true)) K) (hf : p → e1 = some q → AT P y (s.ovr t (.bool false)) K) : AT P (.cond (.tmp t) x y) s K :=
  at_iftn hc (fun h => ht h (by rwa [if_neg h] at hF)) (fun h => hf h (by rwa [if_pos h] at hF))
theorem ct_b {t : Nat} {x y : Code} {b : Bool} {R : Type} {e1 e2 : Option R} {q : R} (hF : (if b = true then e1 else e2) = some q) (hc : eget s.env t = .bool b) (ht : b = true → e1 = some q → AT P x (s.ovr t (.bool true)) K) (hf : b = false → e2 = some q → AT P y (s.ovr t (.bool false)) K) : AT P (.cond (.tmp t) x y) s K :=
  at_ift hc (fun h => ht h (by rwa [if_pos h] at hF)) (fun h => hf h (by rw [h] at hF; exact hF))
theorem ct_bn {t : Nat} {x y : Code} {b : Bool} {R : Type} {e1 e2 : Option R} {q : R} (hF : (if b = true then e1 else e2) = some q) (hc : eget s.env t = .bool (!b)) (ht : b = false → e2 = some q → AT P x (s.ovr t (.bool true)) K) (hf : b = true → e1 = some q → AT P y (s.ovr t (.bool false)) K) : AT P (.cond (.tmp t) x y) s K :=
  at_ift hc (fun h => ht (by simpa using h) (by rw [Bool.not_eq_true'] at h; rw [h] at hF; exact hF)) (fun h => hf (by simpa using h) (by rw [Bool.not_eq_false'] at h; rw [h] at hF; exact hF))

/-- All ways through x lead to states of one kind. -/
theorem ct_cut {σ : Type} {x y : Code} (J : σ → St) (Φ : σ → Prop) (h : AT P x s (thenK (fun s' => ∃ v, Φ v ∧ Down s' (J v)) K)) (h2 : ∀ v, Φ v → AT P y (J v) K) : AT P (.seq x y) s K := by
  refine at_seq ?_
  unfold AT at *
  intro C w a hs
  refine wp_mono (h C w a hs) ?_
  rintro e a' w' ⟨C', s', q1, q2, q3⟩
  refine ⟨C', s', q1, q2, ?_⟩
  cases e with
  | normal => obtain ⟨v, hv, hd⟩ := q3; exact at_down hd (h2 v hv)
  | _ => exact q3

def loopG {σ : Type} (I : σ → St) (Φ : σ → Prop) (K : Exit → St → Prop) : Exit → St → Prop
  | .normal, s => ∃ v, Φ v ∧ Down s (I v)
  | e, s => K e s
theorem ct_loop {σ R : Type} {c : Code} (I : σ → St) (L : (σ → Option R) → σ → Option R) {q : R} (k0 : Nat) (v0 : σ) (hF : itr L k0 v0 = some q) (d0 : Down s (I v0))
    (round : ∀ (k : Nat) v, L (itr L k) v = some q → AT P c (I v) (loopG I (fun v => itr L k v = some q) K)) : AT P (.loop c) s K := by
  refine at_loop (fun x : Nat × σ => I x.2) (fun x => itr L x.1 x.2 = some q) (fun x => x.1) (k0, v0) d0 hF ?_
  rintro ⟨k, v⟩ hk
  cases k with
  | zero => cases hk
  | succ k =>
    have := round k v hk
    unfold AT at *
    intro C w a hs
    refine wp_mono (this C w a hs) ?_
    rintro e a' w' ⟨C', s', q1, q2, q3⟩
    refine ⟨C', s', q1, q2, ?_⟩
    cases e with
    | normal => obtain ⟨v', hv, hd⟩ := q3; exact ⟨(k, v'), hv, Nat.lt_succ_self k, hd⟩
    | _ => exact q3
end
end Go.Abs
