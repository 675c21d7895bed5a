/-
  The abstract state, the table of types, and the operations that only compute: what each yields, and that the machine's operation yields what is represented by it, in every world that agrees on what is there.
-/
import Derived.Test.YtiecdekmiabmkaaAbsA
set_option linter.unusedVariables false
set_option linter.unusedSimpArgs false
namespace Go.Abs

/-! ### Types -/
inductive TK where
  | int (k : IntKind)
  | bool
  | string
  | slice (e : Nat)
  | ptr (e : Nat)
  | struct (fs : List (Nat × Nat))
  | other
structure TI where
  kind : TK
  size : Nat
  bytes : Nat
  zero : List V
  agg : Bool

def toV : Value → V
  | .int k n => .int k n
  | .bool b => .bool b
  | .string s => .str s.data.toList
  | .slice none 0 0 => .nilsl
  | .pointer none => .nilp
  | .tuple ⟨[]⟩ => .tup []
  | .func (.func f) ⟨[]⟩ ⟨[]⟩ => .fn f
  | _ => .junk

theorem rep_toV (C : Ctx) (w : World) (v : Value) : Rep C w v (toV v) := by
  unfold toV
  split
  · exact .int _ _
  · exact .bool _
  · rename_i s; have := Rep.str (C := C) (w := w) s.data.toList; simpa using this
  · exact .nilsl
  · exact .nilp
  · exact .tup .nil
  · exact .fn _
  · exact .junk _

theorem repL_toV (C : Ctx) (w : World) : ∀ vs : List Value, RepL C w vs (vs.map toV)
  | [] => .nil
  | v :: vs => .cons (rep_toV C w v) (repL_toV C w vs)

def tkOf (P : Program) (t : Nat) : TK :=
  match P.underlying t with
  | some (.int k) => .int k
  | some .bool => .bool
  | some .string => .string
  | some (.slice e) => .slice e
  | some (.pointer e) => .ptr e
  | some (.struct fs) => .struct (fs.toList.map fun f => (f.offset, f.type))
  | _ => .other
def aggOf (P : Program) (t : Nat) : Bool :=
  match P.underlying t with
  | some (.struct _) | some (.array _ _) => true
  | _ => false
def zeroOf (P : Program) (t : Nat) : List V := (((P.info? t).bind (·.zero)).map (·.cells.toList.map toV)).getD []
def tiOf (P : Program) (t : Nat) : TI := { kind := tkOf P t, size := P.cellsOf t, bytes := P.bytesOf t, zero := zeroOf P t, agg := aggOf P t }
/-- The table is the program's own, for types that there are. -/
def TabOK (P : Program) (T : List TI) : Prop := ∀ t i, T[t]? = some i → i = tiOf P t ∧ (P.info? t).isSome = true ∧ (P.underlying t).isSome = true

theorem tabOK_of {P : Program} {T : List TI} {n : Nat} (h : T = (List.range n).map (tiOf P)) (h2 : (List.range n).all (fun t => (P.info? t).isSome && (P.underlying t).isSome) = true) : TabOK P T := by
  intro t i hi
  subst h
  rw [List.getElem?_map] at hi
  rcases Nat.lt_or_ge t n with hn | hn
  · rw [List.getElem?_range hn] at hi
    simp at hi
    have := List.all_eq_true.1 h2 t (List.mem_range.2 hn)
    simp at this
    exact ⟨hi.symm, this.1, this.2⟩
  · rw [List.getElem?_eq_none (by simpa using hn)] at hi
    simp at hi

section
variable {P : Program} {T : List TI} {t : Nat} {i : TI}
theorem TabOK.info (h : TabOK P T) (ht : T[t]? = some i) : ∃ j, P.info? t = some j ∧ j.size = i.size ∧ j.bytes = i.bytes := by
  obtain ⟨rfl, h1, _⟩ := h t i ht
  obtain ⟨j, hj⟩ := Option.isSome_iff_exists.1 h1
  exact ⟨j, hj, by simp [tiOf, Program.cellsOf, hj], by simp [tiOf, Program.bytesOf, hj]⟩
theorem TabOK.size (h : TabOK P T) (ht : T[t]? = some i) (w : World) : (sizeOf t).run P w = .ok i.size w := by
  obtain ⟨j, hj, hs, _⟩ := h.info ht
  simp [sizeOf, typeInfo, hj, hs]
theorem TabOK.tinfo (h : TabOK P T) (ht : T[t]? = some i) : ∃ j, (∀ w, (typeInfo t).run P w = .ok j w) ∧ j.size = i.size ∧ j.bytes = i.bytes := by
  obtain ⟨j, hj, hs, hb⟩ := h.info ht
  exact ⟨j, fun w => by simp [typeInfo, hj], hs, hb⟩
theorem TabOK.isAgg (h : TabOK P T) (ht : T[t]? = some i) (w : World) : (isAgg t).run P w = .ok i.agg w := by
  obtain ⟨rfl, _, h1⟩ := h t i ht
  obtain ⟨d, hd⟩ := Option.isSome_iff_exists.1 h1
  simp only [Go.isAgg, tiOf, aggOf, Sem.run_bind, run_underlying hd, Result.andThen_ok, hd]
  split <;> simp_all
theorem TabOK.int {k : IntKind} (h : TabOK P T) (ht : T[t]? = some i) (hk : i.kind = .int k) : P.underlying t = some (.int k) := by
  obtain ⟨rfl, _, h1⟩ := h t i ht
  simp only [tiOf, tkOf] at hk
  split at hk <;> simp_all
theorem TabOK.slice {e : Nat} (h : TabOK P T) (ht : T[t]? = some i) (hk : i.kind = .slice e) : P.underlying t = some (.slice e) := by
  obtain ⟨rfl, _, h1⟩ := h t i ht
  simp only [tiOf, tkOf] at hk
  split at hk <;> simp_all
theorem TabOK.ptr {e : Nat} (h : TabOK P T) (ht : T[t]? = some i) (hk : i.kind = .ptr e) : P.underlying t = some (.pointer e) := by
  obtain ⟨rfl, _, h1⟩ := h t i ht
  simp only [tiOf, tkOf] at hk
  split at hk <;> simp_all
theorem TabOK.string (h : TabOK P T) (ht : T[t]? = some i) (hk : i.kind = .string) : P.underlying t = some .string := by
  obtain ⟨rfl, _, h1⟩ := h t i ht
  simp only [tiOf, tkOf] at hk
  split at hk <;> simp_all
theorem TabOK.struct {fs : List (Nat × Nat)} (h : TabOK P T) (ht : T[t]? = some i) (hk : i.kind = .struct fs) : ∃ fields, P.underlying t = some (.struct fields) ∧ fields.toList.map (fun f => (f.offset, f.type)) = fs := by
  obtain ⟨rfl, _, h1⟩ := h t i ht
  simp only [tiOf, tkOf] at hk
  split at hk <;> simp_all
theorem TabOK.zero (h : TabOK P T) (ht : T[t]? = some i) (hz : i.zero ≠ []) : ∃ z, (∀ w, (zeroValue t).run P w = .ok z w) ∧ z.cells.toList.map toV = i.zero := by
  obtain ⟨rfl, h1, _⟩ := h t i ht
  obtain ⟨j, hj⟩ := Option.isSome_iff_exists.1 h1
  simp only [tiOf, zeroOf, hj, Option.bind_some] at hz ⊢
  cases hzz : j.zero with
  | none => simp [hzz] at hz
  | some z => exact ⟨z, fun w => by simp [zeroValue, typeInfo, hj, hzz], by simp⟩
end

/-! ### States -/
def eget : List (Nat × V) → Nat → V
  | [], _ => .junk
  | (j, v) :: r, i => bif Nat.beq i j then v else eget r i
def hget : List (Nat × HB) → Nat → Option HB
  | [], _ => none
  | (j, v) :: r, i => bif Nat.beq i j then some v else hget r i

structure St where
  env : List (Nat × V)
  heap : List (Nat × HB)
  nx : Nat
  n : Nat
  lv : List Nat

/-- Regions 0 and 1 live throughout; of others the state says so. -/
def St.live (s : St) (l : Nat) : Bool := Nat.ble l 1 || s.lv.any (Nat.beq l)

def St.put : St → Option Nat → V → Option St
  | s, none, _ => some s
  | ⟨env, heap, nx, n, lv⟩, some d, v => bif Nat.blt d n then some ⟨(d, v) :: env, heap, nx, n, lv⟩ else none

/-- A state with one row more, by the next number. -/
def St.new : St → HB → St
  | ⟨env, heap, nx, n, lv⟩, hb => ⟨env, (nx, hb) :: heap, nx + 1, n, lv⟩
/-- The same, its address in a slot. -/
def St.newP : St → Nat → List (List V) → Option Nat → Option St
  | ⟨env, heap, nx, n, lv⟩, sz, rows, some d => bif Nat.blt d n then some ⟨(d, .ptr nx 1 0 0) :: env, (nx, ⟨sz, rows⟩) :: heap, nx + 1, n, lv⟩ else none
  | ⟨env, heap, nx, n, lv⟩, sz, rows, none => some ⟨env, (nx, ⟨sz, rows⟩) :: heap, nx + 1, n, lv⟩
theorem newP_eq (s : St) (sz : Nat) (rows : List (List V)) (d : Option Nat) : s.newP sz rows d = (s.new ⟨sz, rows⟩).put d (.ptr s.nx 1 0 0) := by cases s; cases d <;> rfl
/-- The same, a slice over it in a slot. -/
def St.newH : St → Nat → List (List V) → Nat → Option Nat → Option St
  | ⟨env, heap, nx, n, lv⟩, sz, rows, len, some d => bif Nat.blt d n then some ⟨(d, .hsl nx 0 len) :: env, (nx, ⟨sz, rows⟩) :: heap, nx + 1, n, lv⟩ else none
  | ⟨env, heap, nx, n, lv⟩, sz, rows, _, none => some ⟨env, (nx, ⟨sz, rows⟩) :: heap, nx + 1, n, lv⟩
theorem newH_eq (s : St) (sz : Nat) (rows : List (List V)) (len : Nat) (d : Option Nat) : s.newH sz rows len d = (s.new ⟨sz, rows⟩).put d (.hsl s.nx 0 len) := by cases s; cases d <;> rfl
/-- A state with a row written. -/
def St.wr : St → Nat → HB → St
  | ⟨env, heap, nx, n, lv⟩, u, hb => ⟨env, (u, hb) :: heap, nx, n, lv⟩

/-- A value, reckoned as far as its head. -/
def V.force : V → Option V
  | .int k n => some (.int k n)
  | .bool b => some (.bool b)
  | .str s => some (.str s)
  | .agg cs => some (.agg cs)
  | .tup vs => some (.tup vs)
  | .psl l sz rows => some (.psl l sz rows)
  | .hsl u i len => some (.hsl u i len)
  | .nilsl => some .nilsl
  | .ptr u n i off => some (.ptr u n i off)
  | .pptr l sz rows i off => some (.pptr l sz rows i off)
  | .nilp => some .nilp
  | .fn f => some (.fn f)
  | .junk => some .junk
theorem force_eq (x y : V) (h : x.force = some y) : y = x := by
  cases x <;> simp [V.force] at h <;> exact h.symm

def ev (s : St) : Operand → V
  | .tmp t => eget s.env t
  | .const v => toV v
  | .func f => .fn f
  | .global _ => .junk

def RepR (C : Ctx) (w : World) (b off sz : Nat) (rows : List (List V)) : Prop :=
  ∃ vals : Nat → List Value, ∀ i row, rows[i]? = some row → (vals i).length = sz ∧ (∀ j v, (vals i)[j]? = some v → w.cell? ⟨b, off + i * sz + j, none⟩ = some v) ∧ RepL C w (vals i) row

def Blk (C : Ctx) (w : World) (L : Loc) (rows : List (List V)) : Prop :=
  match L.blk with
  | none => rows = [] ∧ L.cap = 0
  | some b => ∃ cs el fz, w.heap[b]? = some (.cells cs el fz) ∧ cs.size = L.cap * L.sz ∧ rows.length ≤ L.cap ∧ (∀ o, o < cs.size → ¬ (fz.1 ≤ o ∧ o < fz.2)) ∧ RepR C w b 0 L.sz rows

structure HSt (C : Ctx) (w : World) (h : List (Nat × HB)) : Prop where
  dom : ∀ u, hget h u = none → C.loc u = none
  ent : ∀ u hb, hget h u = some hb → ∃ L, C.loc u = some L ∧ L.sz = hb.sz ∧ L.n = hb.rows.length ∧ Blk C w L hb.rows
  lt : ∀ u L, C.loc u = some L → u < C.nx
  inj : ∀ u u' L L' b, C.loc u = some L → C.loc u' = some L' → L.blk = some b → L'.blk = some b → u = u'
  own : ∀ u L b l, C.loc u = some L → L.blk = some b → C.lv l → ¬ C.reg l b
  regs : ∀ l b, C.lv l → C.reg l b → b < w.heap.size
  lvs : ∀ l, C.lv l → l < C.nx
  rdis : ∀ l l' b, C.lv l → C.lv l' → C.reg l b → C.reg l' b → l = l'
  zero : C.lv 0 ∧ C.lv 1 ∧ ¬ C.lv 2
  two : 2 < C.nx

structure StRep (C : Ctx) (w : World) (a : Act) (s : St) : Prop where
  defers : a.defers = []
  size : a.tmps.size = s.n
  nx : C.nx = s.nx
  env : ∀ i, Rep C w (a.tmps.getD i undef) (eget s.env i)
  heap : HSt C w s.heap
  lv : ∀ l ∈ s.lv, C.lv l

theorem StRep.live {C : Ctx} {w : World} {a : Act} {s : St} (h : StRep C w a s) {l : Nat} (hl : s.live l = true) : C.lv l := by
  unfold St.live at hl
  rw [Bool.or_eq_true] at hl
  rcases hl with hl | hl
  · rw [Nat.ble_eq] at hl
    have : l = 0 ∨ l = 1 := by omega
    rcases this with rfl | rfl
    · exact h.heap.zero.1
    · exact h.heap.zero.2.1
  · obtain ⟨x, hx, he⟩ := List.any_eq_true.1 hl
    rw [Nat.beq_eq] at he
    subst he
    exact h.lv _ hx

theorem StRep.ev {C : Ctx} {w : World} {a : Act} {s : St} (h : StRep C w a s) (x : Operand) : Rep C w (a.eval x) (ev s x) := by
  cases x with
  | tmp t => exact h.env t
  | const v => exact rep_toV C w v
  | global g => exact .junk _
  | func f => exact .fn f

/-- A world in which all that is there is as it was. -/
structure Agree (w w' : World) : Prop where
  size : w.heap.size ≤ w'.heap.size
  heap : ∀ b, b < w.heap.size → w'.heap[b]? = w.heap[b]?
  os : w'.os = w.os
  out : w'.output = w.output
theorem Agree.refl (w : World) : Agree w w := ⟨Nat.le_refl _, fun _ _ => rfl, rfl, rfl⟩
theorem Agree.trans {w w' w2 : World} (h : Agree w w') (h2 : Agree w' w2) : Agree w w2 :=
  ⟨Nat.le_trans h.1 h2.1, fun b hb => (h2.2 b (Nat.lt_of_lt_of_le hb h.1)).trans (h.2 b hb), h2.os.trans h.os, h2.out.trans h.out⟩
theorem Agree.cell {w w' : World} (h : Agree w w') {b o : Nat} {v : Value} (hc : w.cell? ⟨b, o, none⟩ = some v) : w'.cell? ⟨b, o, none⟩ = some v := by
  rw [cell_of_block (h.2 b (World.block_lt_of_cell? w ⟨b, o, none⟩ hc))]; exact hc

/-! ### Operations that only compute -/
def pbin (op : BinOp) (x y : V) : Option V :=
  match op, x, y with
  | .eql, .int k a, .int k' b => if k = k' then some (.bool (decide (a = b))) else none
  | .neq, .int k a, .int k' b => if k = k' then some (.bool (!decide (a = b))) else none
  | .lss, .int k a, .int k' b => if k = k' then some (.bool (decide (a < b))) else none
  | .leq, .int k a, .int k' b => if k = k' then some (.bool (decide (a ≤ b))) else none
  | .gtr, .int k a, .int k' b => if k = k' then some (.bool (decide (a > b))) else none
  | .geq, .int k a, .int k' b => if k = k' then some (.bool (decide (a ≥ b))) else none
  | .add, .int k a, .int k' b => if k = k' then some (.int k (k.wrap (a + b))) else none
  | .sub, .int k a, .int k' b => if k = k' then some (.int k (k.wrap (a - b))) else none
  | .mul, .int k a, .int k' b => if k = k' then some (.int k (k.wrap (a * b))) else none
  | .eql, .str a, .str b => some (.bool (decide (a = b)))
  | .neq, .str a, .str b => some (.bool (!decide (a = b)))
  | _, _, _ => none

def lenV (s : St) (k : TK) (x : V) : Option V :=
  match k, x with
  | .string, .str s => some (.int .i64 s.length)
  | .slice _, .psl l _ rows => bif s.live l then some (.int .i64 rows.length) else none
  | .slice _, .nilsl => some (.int .i64 0)
  | _, _ => none

/-- So many from 'off' on, written out. -/
def segF : List V → Nat → Nat → Option (List V)
  | _, 0, 0 => some []
  | x :: r, 0, n + 1 => match segF r 0 n with | some l => some (x :: l) | none => none
  | _ :: r, o + 1, n => segF r o n
  | [], _, _ => none
theorem segF_spec : ∀ {row : List V} {off n : Nat} {l : List V}, segF row off n = some l → l = (row.drop off).take n ∧ off + n ≤ row.length
  | row, 0, 0, l, h => by cases row <;> simp [segF] at h <;> simp [h]
  | x :: r, 0, n + 1, l, h => by
    simp only [segF] at h
    split at h
    · rename_i l' hl
      obtain ⟨h1, h2⟩ := segF_spec hl
      simp only [Option.some.injEq] at h
      subst h; subst h1
      simp only [List.drop_zero, List.take_succ_cons, List.length_cons, true_and]
      omega
    · simp at h
  | x :: r, o + 1, n, l, h => by
    obtain ⟨h1, h2⟩ := segF_spec (row := r) (off := o) (by simpa [segF] using h)
    subst h1
    simp only [List.drop_succ_cons, List.length_cons, true_and]
    omega
  | [], 0, n + 1, l, h => by simp [segF] at h
  | [], o + 1, n, l, h => by simp [segF] at h

/-- What lies from 'off' on in a row, read at a type. -/
def loadRow (ti : TI) (row : List V) (off : Nat) : Option V :=
  bif ti.agg then (bif Nat.beq off 0 && Nat.beq ti.size row.length then some (.agg row) else match segF row off ti.size with | some l => some (.agg l) | none => none)
  else row[off]?

def fieldOf (T : List TI) (t k : Nat) : Option (Nat × Nat) :=
  match T[t]? with
  | some { kind := .struct fs, .. } => fs[k]?
  | _ => none

def sizeT (T : List TI) (t : Nat) : Nat := match T[t]? with | some ti => ti.size | none => 0

def convK (T : List TI) (t : Nat) : Option IntKind :=
  match T[t]? with
  | some { kind := .int k, .. } => some k
  | _ => none

def pstep (T : List TI) (s : St) : Op → Option V
  | .move x => (ev s x).force
  | .assign x => (ev s x).force
  | .pick c a b => match ev s c with | .bool t => (bif t then ev s a else ev s b).force | _ => none
  | .binOp op _ x y _ => pbin op (ev s x) (ev s y)
  | .unOp .not _ x => match ev s x with | .bool b => some (.bool (!b)) | _ => none
  | .unOp .neg _ x => match ev s x with | .int k n => some (.int k (k.wrap (0 - n))) | _ => none
  | .extract x i => match ev s x with | .tup vs => vs[i]? | _ => none
  | .nilCheck x => match ev s x with
    | .pptr l sz rows i off => bif s.live l then some (.pptr l sz rows i off) else none
    | .ptr u n i off => (match hget s.heap u with | some hb => bif Nat.beq n hb.rows.length then some (.ptr u n i off) else none | none => none)
    | _ => none
  | .fieldAddr t x k => match fieldOf T t k with
    | some (o, ft) => bif Nat.beq (sizeT T ft) 0 then none else (match ev s x with
      | .pptr l sz rows i off => bif s.live l then some (.pptr l sz rows i (off + o)) else none
      | .ptr u n i off => (match hget s.heap u with | some hb => bif Nat.beq n hb.rows.length then some (.ptr u n i (off + o)) else none | none => none)
      | _ => none)
    | none => none
  | .field t x k => match fieldOf T t k with
    | some (o, ft) => (match ev s x, T[ft]? with
      | .agg cs, some ti => loadRow ti cs o
      | _, _ => none)
    | none => none
  | .load t x => match T[t]? with
    | some ti => (match ev s x with
      | .pptr l _ rows i off => bif s.live l then (match rows[i]? with | some row => loadRow ti row off | none => none) else none
      | .ptr u n i off => (match hget s.heap u with
        | some hb => bif Nat.beq n hb.rows.length then (match hb.rows[i]? with | some row => loadRow ti row off | none => none) else none
        | none => none)
      | _ => none)
    | none => none
  | .convert src dst x => match convK T src, convK T dst, ev s x with
    | some _, some k, .int _ n => some (.int k (k.wrap n))
    | _, _, _ => none
  | .call { callee := .builtin .len, args := ⟨[x]⟩, argTypes := ⟨[t]⟩ } => match T[t]? with
    | some ti => lenV s ti.kind (ev s x)
    | none => none
  | _ => none

theorem agree_cells {w w' : World} (h : Agree w w') {b base : Nat} {vs : List Value} (hc : ∀ j v, vs[j]? = some v → w.cell? ⟨b, base + j, none⟩ = some v) :
    ∀ j v, vs[j]? = some v → w'.cell? ⟨b, base + j, none⟩ = some v := fun j v hj => h.cell (hc j v hj)

theorem addr_add (b o n : Nat) : (⟨b, o, none⟩ : Addr).add n = ⟨b, o + n, none⟩ := by
  unfold Addr.add; split <;> simp_all

section
variable {P : Program} {T : List TI} {C : Ctx} {w : World}

theorem run_part {t : Nat} {ti : TI} (hT : TabOK P T) (ht : T[t]? = some ti) {cs : List Value} {row : List V} {off : Nat} {x : V}
    (hr : RepL C w cs row) (hl : loadRow ti row off = some x) : ∃ v, (∀ w', (part t ⟨cs⟩ off).run P w' = .ok v w') ∧ Rep C w v x := by
  have hlen := hr.length
  unfold loadRow at hl
  unfold part
  cases ha : ti.agg
  · simp only [ha, cond_false] at hl
    obtain ⟨v, hv, hrep⟩ := hr.get off x hl
    exact ⟨v, fun w' => by simp [hT.isAgg ht, ha, hv], hrep⟩
  · simp only [ha, cond_true] at hl
    have key : off + ti.size ≤ row.length → ∃ v, (∀ w', (do
        if (← isAgg t) = true then pure (Value.agg ((⟨cs⟩ : Array Value).extract off (off + (← sizeOf t)))) else
          match (⟨cs⟩ : Array Value)[off]? with
          | some v => pure v
          | none => stuck "part: no such cell" : Sem Value).run P w' = .ok v w') ∧ Rep C w v (.agg ((row.drop off).take ti.size)) := fun _ => by
      refine ⟨.agg ⟨(cs.drop off).take ti.size⟩, fun w' => ?_, .agg ((hr.drop off).take ti.size)⟩
      simp [hT.isAgg ht, ha, hT.size ht, List.extract_eq_take_drop]
    rw [Bool.cond_eq_ite] at hl
    split at hl
    · rename_i hc
      simp only [Bool.and_eq_true, Nat.beq_eq] at hc
      obtain ⟨v, h1, h2⟩ := key (by omega)
      simp only [Option.some.injEq] at hl
      subst hl
      rw [hc.1, List.drop_zero, hc.2, List.take_length] at h2
      exact ⟨v, h1, h2⟩
    · split at hl
      · rename_i l hc
        obtain ⟨hl1, hc2⟩ := segF_spec hc
        simp only [Option.some.injEq] at hl
        subst hl; subst hl1
        exact key hc2
      · simp at hl

theorem run_loadRow {t : Nat} {ti : TI} (hT : TabOK P T) (ht : T[t]? = some ti) {b base off : Nat} {vs : List Value} {row : List V} {x : V}
    (hc : ∀ j v, vs[j]? = some v → w.cell? ⟨b, base + j, none⟩ = some v) (hr : RepL C w vs row) (hl : loadRow ti row off = some x) :
    ∃ v, (∀ w', Agree w w' → (Instr.loadAt t (.pointer (some ⟨b, base + off, none⟩))).run P w' = .ok v w') ∧ Rep C w v x := by
  have hlen := hr.length
  unfold loadRow at hl
  cases ha : ti.agg
  · simp only [ha, cond_false] at hl
    obtain ⟨v, hv, hrep⟩ := hr.get off x hl
    refine ⟨v, fun w' hw => ?_, hrep⟩
    have := hw.cell (hc off v hv)
    simp [Instr.loadAt, Instr.sureAddr, loadVar, hT.isAgg ht, ha, this]
  · simp only [ha, cond_true] at hl
    have key : off + ti.size ≤ row.length → ∃ v, (∀ w', Agree w w' → (Instr.loadAt t (.pointer (some ⟨b, base + off, none⟩))).run P w' = .ok v w') ∧
        Rep C w v (.agg ((row.drop off).take ti.size)) := fun hle => by
      refine ⟨.agg ⟨(vs.drop off).take ti.size⟩, fun w' hw => ?_, .agg ((hr.drop off).take ti.size)⟩
      have e : ((vs.drop off).take ti.size).length = ti.size := by simp; omega
      have h2 := run_loadCells_list (P := P) w' ⟨b, base + off, none⟩ ((vs.drop off).take ti.size) (fun j v hj => by
        rw [addr_add]
        rw [List.getElem?_take] at hj
        split at hj
        · rw [List.getElem?_drop] at hj
          have := hw.cell (hc (off + j) v hj)
          rwa [Nat.add_assoc]
        · simp at hj)
      rw [e] at h2
      simp [Instr.loadAt, Instr.sureAddr, loadVar, hT.isAgg ht, ha, hT.size ht, h2]
    rw [Bool.cond_eq_ite] at hl
    split at hl
    · rename_i hc'
      simp only [Bool.and_eq_true, Nat.beq_eq] at hc'
      obtain ⟨v, h1, h2⟩ := key (by omega)
      simp only [Option.some.injEq] at hl
      subst hl
      rw [hc'.1, List.drop_zero, hc'.2, List.take_length] at h2
      exact ⟨v, by simpa [hc'.1] using h1, h2⟩
    · split at hl
      · rename_i l hc'
        obtain ⟨hl1, hc2⟩ := segF_spec hc'
        simp only [Option.some.injEq] at hl
        subst hl; subst hl1
        exact key hc2
      · simp at hl

theorem bytes_size (s : List UInt8) : (⟨s.toArray⟩ : ByteArray).size = s.length := by
  show s.toArray.size = _
  simp

theorem tobytes_eq (s t : List UInt8) : (((⟨s.toArray⟩ : ByteArray).toList == (⟨t.toArray⟩ : ByteArray).toList)) = decide (s = t) := by
  rw [Bool.eq_iff_iff]; simp [ByteArray.toList_eq]

theorem int_beq (a b : Int) : (a == b) = decide (a = b) := by rw [Bool.eq_iff_iff]; simp
theorem int_bne (a b : Int) : (a != b) = !decide (a = b) := by rw [Bool.eq_iff_iff]; simp

theorem pbin_sound {op : BinOp} {x y : V} {r : V} {a b : Value} (t : Nat) (xo yo : Operand) (ha : Rep C w a x) (hb : Rep C w b y) (h : pbin op x y = some r) :
    ∃ v, (∀ w', (do eqGuard op t xo yo a b; binOp op t a b : Sem Value).run P w' = .ok v w') ∧ Rep C w v r := by
  unfold pbin at h
  split at h
  · cases ha; cases hb
    split at h
    · rename_i hk
      simp only [Option.some.injEq] at h
      subst hk; subst h
      refine ⟨_, ?h, .bool _⟩
      case h => intro w'; simp [eqGuard, binOp, Op.intCmp, int_beq, int_bne]
    · simp at h
  · cases ha; cases hb
    split at h
    · rename_i hk
      simp only [Option.some.injEq] at h
      subst hk; subst h
      refine ⟨_, ?h, .bool _⟩
      case h => intro w'; simp [eqGuard, binOp, Op.intCmp, int_beq, int_bne]
    · simp at h
  · cases ha; cases hb
    split at h
    · rename_i hk
      simp only [Option.some.injEq] at h
      subst hk; subst h
      refine ⟨_, ?h, .bool _⟩
      case h => intro w'; simp [eqGuard, binOp, Op.intCmp, int_beq, int_bne]
    · simp at h
  · cases ha; cases hb
    split at h
    · rename_i hk
      simp only [Option.some.injEq] at h
      subst hk; subst h
      refine ⟨_, ?h, .bool _⟩
      case h => intro w'; simp [eqGuard, binOp, Op.intCmp, int_beq, int_bne]
    · simp at h
  · cases ha; cases hb
    split at h
    · rename_i hk
      simp only [Option.some.injEq] at h
      subst hk; subst h
      refine ⟨_, ?h, .bool _⟩
      case h => intro w'; simp [eqGuard, binOp, Op.intCmp, int_beq, int_bne]
    · simp at h
  · cases ha; cases hb
    split at h
    · rename_i hk
      simp only [Option.some.injEq] at h
      subst hk; subst h
      refine ⟨_, ?h, .bool _⟩
      case h => intro w'; simp [eqGuard, binOp, Op.intCmp, int_beq, int_bne]
    · simp at h
  · cases ha; cases hb
    split at h
    · rename_i hk
      simp only [Option.some.injEq] at h
      subst hk; subst h
      refine ⟨_, ?h, .int _ _⟩
      case h => intro w'; simp [eqGuard, binOp, Op.intArith]
    · simp at h
  · cases ha; cases hb
    split at h
    · rename_i hk
      simp only [Option.some.injEq] at h
      subst hk; subst h
      refine ⟨_, ?h, .int _ _⟩
      case h => intro w'; simp [eqGuard, binOp, Op.intArith]
    · simp at h
  · cases ha; cases hb
    split at h
    · rename_i hk
      simp only [Option.some.injEq] at h
      subst hk; subst h
      refine ⟨_, ?h, .int _ _⟩
      case h => intro w'; simp [eqGuard, binOp, Op.intArith]
    · simp at h
  · cases ha; cases hb
    simp only [Option.some.injEq] at h
    subst h
    refine ⟨_, ?h, .bool _⟩
    case h => intro w'; simp only [eqGuard, binOp, Op.stringOp, tobytes_eq]; simp
  · cases ha; cases hb
    simp only [Option.some.injEq] at h
    subst h
    refine ⟨_, ?h, .bool _⟩
    case h => intro w'; simp only [eqGuard, binOp, Op.stringOp, tobytes_eq]; simp
  · simp at h

theorem len_sound {a0 : Act} {s : St} {x r : V} {a : Value} {t : Nat} {ti : TI} (ty : Nat) (hT : TabOK P T) (ht : T[t]? = some ti) (hs : StRep C w a0 s) (ha : Rep C w a x) (h : lenV s ti.kind x = some r) :
    ∃ v, (∀ w', (Builtin.len_ #[t] ty #[a]).run P w' = .ok v w') ∧ Rep C w v r := by
  unfold lenV at h
  split at h
  · rename_i hk
    cases ha
    simp only [Option.some.injEq] at h
    subst h
    exact ⟨_, fun w' => by simp [Builtin.len_, run_underlying (hT.string ht hk), goInt, bytes_size], .int _ _⟩
  · rename_i e l sz rows hk
    rw [Bool.cond_eq_ite] at h
    split at h
    · rename_i hl
      simp only [Option.some.injEq] at h
      subst h
      have hl' := hs.live hl
      cases ha with
      | psl0 a c l s => exact ⟨_, fun w' => by simp [Builtin.len_, run_underlying (hT.slice ht hk), goInt], .int _ _⟩
      | psl vals h1 h2 h3 hlen _ h4 h5 => subst hlen; exact ⟨_, fun w' => by simp [Builtin.len_, run_underlying (hT.slice ht hk), goInt], .int _ _⟩
      | psld v hn _ => exact absurd hl' hn
    · simp at h
  · rename_i hk
    cases ha
    simp only [Option.some.injEq] at h
    subst h
    exact ⟨_, fun w' => by simp [Builtin.len_, run_underlying (hT.slice ht hk), goInt], .int _ _⟩
  · simp at h

theorem fieldOf_spec {t k o ft : Nat} (h : fieldOf T t k = some (o, ft)) : ∃ ti fs, T[t]? = some ti ∧ ti.kind = .struct fs ∧ fs[k]? = some (o, ft) := by
  unfold fieldOf at h
  split at h
  · rename_i fs _ _ _ _ ht
    exact ⟨_, fs, ht, rfl, h⟩
  · simp at h

theorem convK_spec {t : Nat} {k : IntKind} (h : convK T t = some k) : ∃ ti, T[t]? = some ti ∧ ti.kind = .int k := by
  unfold convK at h
  split at h
  · rename_i ht
    simp only [Option.some.injEq] at h
    subst h
    exact ⟨_, ht, rfl⟩
  · simp at h

/-- The machine's fields at the place of the table's. -/
theorem field_at {fields : Array Field} {fs : List (Nat × Nat)} (h : fields.toList.map (fun f => (f.offset, f.type)) = fs) {k o ft : Nat} (hk : fs[k]? = some (o, ft)) :
    ∃ f, fields[k]? = some f ∧ f.offset = o ∧ f.type = ft := by
  subst h
  rw [List.getElem?_map] at hk
  cases hf : fields.toList[k]? with
  | none => simp [hf] at hk
  | some f =>
    simp [hf] at hk
    exact ⟨f, by simpa using hf, hk.1, hk.2⟩

theorem sizeT_spec {t : Nat} (h : Nat.beq (sizeT T t) 0 = false) : ∃ ti, T[t]? = some ti ∧ ti.size ≠ 0 := by
  unfold sizeT at h
  split at h
  · rename_i ti ht
    exact ⟨ti, ht, fun e => by simp [e] at h⟩
  · simp at h

theorem hget_loc {h : List (Nat × HB)} (hs : HSt C w h) {u : Nat} {hb : HB} (hu : hget h u = some hb) : ∃ L, C.loc u = some L ∧ L.sz = hb.sz ∧ L.n = hb.rows.length ∧ Blk C w L hb.rows :=
  hs.ent u hb hu

theorem ptr_spec {h : List (Nat × HB)} (hs : HSt C w h) {u n i off : Nat} {v : Value} (hr : Rep C w v (.ptr u n i off)) {hb : HB} (hu : hget h u = some hb) (hn : n = hb.rows.length) :
    ∃ L b, C.loc u = some L ∧ L.sz = hb.sz ∧ L.n = hb.rows.length ∧ Blk C w L hb.rows ∧ L.blk = some b ∧ v = .pointer (some ⟨b, i * hb.sz + off, none⟩) := by
  obtain ⟨L, h1, h2, h3, h4⟩ := hs.ent u hb hu
  cases hr with
  | ptr _ h =>
    obtain ⟨_, h6⟩ := h L h1
    obtain ⟨b, h7, h8⟩ := h6 (by omega)
    exact ⟨L, b, h1, h2, h3, h4, h7, by rw [h8, h2]⟩

theorem pptr_spec {l sz i off : Nat} {rows : List (List V)} {v : Value} (hr : Rep C w v (.pptr l sz rows i off)) (hl : C.lv l) :
    ∃ b o, C.reg l b ∧ RepR C w b o sz rows ∧ v = .pointer (some ⟨b, o + i * sz + off, none⟩) := by
  cases hr with
  | pptr vals h1 h2 h3 h4 h5 => exact ⟨_, _, h3, ⟨vals, fun i row hi => ⟨(h4 i row hi).1, (h4 i row hi).2, h5 i row hi⟩⟩, rfl⟩
  | pptrd _ h1 _ => exact absurd hl h1

/-- WHAT ONLY COMPUTES, COMPUTES WHAT IT SAYS, in every world that agrees with this one. -/
theorem pstep_sound {s : St} {a : Act} {o : Oper} {x : V} (hT : TabOK P T) (hs : StRep C w a s) (h : pstep T s o.op = some x) :
    ∃ v, (∀ w', Agree w w' → (execOp a.eval o).run P w' = .ok (.value v) w') ∧ Rep C w v x := by
  unfold pstep at h
  split at h
  · rename_i y ho
    rw [force_eq _ _ h]
    exact ⟨_, fun w' _ => by simp [execOp, ho], hs.ev y⟩
  · rename_i y ho
    rw [force_eq _ _ h]
    exact ⟨_, fun w' _ => by simp [execOp, ho], hs.ev y⟩
  · rename_i c p q ho
    split at h
    · rename_i t hc
      rw [force_eq _ _ h]
      have hcv := hs.ev c
      rw [hc] at hcv
      generalize hce : a.eval c = cv at hcv
      cases hcv
      refine ⟨bif t then a.eval p else a.eval q, fun w' _ => ?_, ?_⟩
      · simp only [execOp, ho, hce, asBool]
        cases t <;> simp
      · cases t
        · exact hs.ev q
        · exact hs.ev p
    · simp at h
  · rename_i op t p q t' ho
    obtain ⟨v, h1, h2⟩ := pbin_sound (P := P) t p q (hs.ev p) (hs.ev q) h
    exact ⟨v, fun w' _ => by
      have := h1 w'
      simp only [execOp, ho, Sem.run_bind] at this ⊢
      rw [this]; rfl, h2⟩
  · rename_i t y ho
    split at h
    · rename_i b hb
      simp only [Option.some.injEq] at h
      subst h
      have hv := hs.ev y
      rw [hb] at hv
      generalize he : a.eval y = v at hv
      cases hv
      exact ⟨_, fun w' _ => by simp [execOp, ho, he, Op.unary], .bool _⟩
    · simp at h
  · rename_i t y ho
    split at h
    · rename_i k n hb
      simp only [Option.some.injEq] at h
      subst h
      have hv := hs.ev y
      rw [hb] at hv
      generalize he : a.eval y = v at hv
      cases hv
      exact ⟨_, fun w' _ => by simp [execOp, ho, he, Op.unary, Op.intArith], .int _ _⟩
    · simp at h
  · rename_i y i ho
    split at h
    · rename_i vs hb
      have hv := hs.ev y
      rw [hb] at hv
      generalize he : a.eval y = v at hv
      cases hv with
      | tup hl =>
        obtain ⟨v, hv, hr⟩ := hl.get i x h
        exact ⟨v, fun w' _ => by simp [execOp, ho, he, Instr.extract, hv], hr⟩
    · simp at h
  · rename_i y ho
    split at h
    · rename_i l sz rows i off hb
      rw [Bool.cond_eq_ite] at h
      split at h
      · rename_i hl
        simp only [Option.some.injEq] at h
        subst h
        have hv := hs.ev y
        rw [hb] at hv
        obtain ⟨b, o', _, _, he⟩ := pptr_spec hv (hs.live hl)
        exact ⟨a.eval y, fun w' _ => by simp [execOp, ho, he], hv⟩
      · simp at h
    · rename_i u n i off hb
      split at h
      · rename_i hbk hu
        rw [Bool.cond_eq_ite] at h
        split at h
        · rename_i hn
          rw [Nat.beq_eq] at hn
          simp only [Option.some.injEq] at h
          subst h
          have hv := hs.ev y
          rw [hb] at hv
          obtain ⟨L, b, _, _, _, _, _, he⟩ := ptr_spec hs.heap hv hu hn
          exact ⟨a.eval y, fun w' _ => by simp [execOp, ho, he], hv⟩
        · simp at h
      · simp at h
    · simp at h
  · rename_i t y k ho
    split at h
    · rename_i o' ft hf
      obtain ⟨ti, fs, ht, hk, hfs⟩ := fieldOf_spec hf
      obtain ⟨fields, hu, hmap⟩ := hT.struct ht hk
      obtain ⟨f, hfk, hfo, hft⟩ := field_at hmap hfs
      rw [Bool.cond_eq_ite] at h
      split at h
      · simp at h
      · rename_i hz
        obtain ⟨fi, hfi, hfz⟩ := sizeT_spec (T := T) (t := ft) (Bool.eq_false_iff.2 hz)
        split at h
        · rename_i l sz rows i off hb
          rw [Bool.cond_eq_ite] at h
          split at h
          · rename_i hl
            simp only [Option.some.injEq] at h
            subst h
            have hv := hs.ev y
            rw [hb] at hv
            generalize hae : a.eval y = v at hv
            cases hv with
            | pptrd _ h1 _ => exact absurd (hs.live hl) h1
            | pptr vals h1 h2 h3 h4 h5 =>
              refine ⟨_, fun w' _ => ?_, .pptr (off := off + o') vals h1 h2 h3 h4 h5⟩
              subst hft
              simp [execOp, ho, hae, Instr.fieldAt, run_underlying hu, hfk, Instr.sureAddr, fieldPlace, hT.size hfi, hfz, addr_add, hfo, Nat.add_assoc]
          · simp at h
        · rename_i u n i off hb
          split at h
          · rename_i hbk hu'
            rw [Bool.cond_eq_ite] at h
            split at h
            · rename_i hn
              rw [Nat.beq_eq] at hn
              simp only [Option.some.injEq] at h
              subst h
              have hv := hs.ev y
              rw [hb] at hv
              obtain ⟨L, b, hL, hsz, hLn, _, hblk, he⟩ := ptr_spec hs.heap hv hu' hn
              generalize hae : a.eval y = v at hv he
              cases hv with
              | ptr hlt hall =>
                refine ⟨.pointer (some ⟨b, i * hbk.sz + (off + o'), none⟩), fun w' _ => ?_, .ptr hlt (fun L' hL' => ?_)⟩
                · subst hft
                  simp [execOp, ho, hae, he, Instr.fieldAt, run_underlying hu, hfk, Instr.sureAddr, fieldPlace, hT.size hfi, hfz, addr_add, hfo, Nat.add_assoc]
                · rw [hL] at hL'
                  simp only [Option.some.injEq] at hL'
                  subst hL'
                  exact ⟨by omega, fun _ => ⟨b, hblk, by rw [hsz]⟩⟩
            · simp at h
          · simp at h
        · simp at h
    · simp at h
  · rename_i t y k ho
    split at h
    · rename_i o' ft hf
      obtain ⟨ti, fs, ht, hk, hfs⟩ := fieldOf_spec hf
      obtain ⟨fields, hu, hmap⟩ := hT.struct ht hk
      obtain ⟨f, hfk, hfo, hft⟩ := field_at hmap hfs
      split at h
      · rename_i cs fi hb hfi
        have hv := hs.ev y
        rw [hb] at hv
        generalize hae : a.eval y = v at hv
        cases hv with
        | agg hl =>
          obtain ⟨v, h1, h2⟩ := run_part (P := P) hT hfi hl h
          refine ⟨v, fun w' _ => ?_, h2⟩
          have := h1 w'
          subst hft; subst hfo
          simp [execOp, ho, hae, Instr.field, run_underlying hu, hfk, asAgg, this]
      · simp at h
    · simp at h
  · rename_i t y ho
    split at h
    · rename_i ti ht
      split at h
      · rename_i l sz rows i off hb
        rw [Bool.cond_eq_ite] at h
        split at h
        · rename_i hl
          split at h
          · rename_i row hrow
            have hv := hs.ev y
            rw [hb] at hv
            obtain ⟨b, o', _, ⟨vals, hvals⟩, he⟩ := pptr_spec hv (hs.live hl)
            obtain ⟨h1, h2, h3⟩ := hvals i row hrow
            obtain ⟨v, h4, h5⟩ := run_loadRow (P := P) hT ht h2 h3 h
            exact ⟨v, fun w' hw => by simp [execOp, ho, he, h4 w' hw], h5⟩
          · simp at h
        · simp at h
      · rename_i u n i off hb
        split at h
        · rename_i hbk hu
          rw [Bool.cond_eq_ite] at h
          split at h
          · rename_i hn
            rw [Nat.beq_eq] at hn
            split at h
            · rename_i row hrow
              have hv := hs.ev y
              rw [hb] at hv
              obtain ⟨L, b, hL, hsz, hLn, hblk, hbb, he⟩ := ptr_spec hs.heap hv hu hn
              unfold Blk at hblk
              rw [hbb] at hblk
              obtain ⟨cs, el, fz, _, _, _, _, vals, hvals⟩ := hblk
              obtain ⟨h1, h2, h3⟩ := hvals i row hrow
              obtain ⟨v, h4, h5⟩ := run_loadRow (P := P) hT ht h2 h3 h
              refine ⟨v, fun w' hw => ?_, h5⟩
              have := h4 w' hw
              rw [Nat.zero_add, hsz] at this
              simp [execOp, ho, he, this]
            · simp at h
          · simp at h
        · simp at h
      · simp at h
    · simp at h
  · rename_i src dst y ho
    split at h
    · rename_i k0 k n h1 h2 h3
      simp only [Option.some.injEq] at h
      subst h
      obtain ⟨t1, ht1, hk1⟩ := convK_spec h1
      obtain ⟨t2, ht2, hk2⟩ := convK_spec h2
      have hv := hs.ev y
      rw [h3] at hv
      generalize hae : a.eval y = v at hv
      cases hv
      exact ⟨_, fun w' _ => by simp [execOp, ho, hae, convert, run_underlying (hT.int ht1 hk1), run_underlying (hT.int ht2 hk2), Conv.intToInt], .int _ _⟩
    · simp at h
  · rename_i y t ho
    split at h
    · rename_i ti ht
      obtain ⟨v, h1, h2⟩ := len_sound (P := P) (a := a.eval y) o.type hT ht hs (hs.ev y) h
      exact ⟨v, fun w' _ => by simp [execOp, ho, resolve, invoke, builtin, h1 w'], h2⟩
    · simp at h
  · simp at h

end
end Go.Abs
