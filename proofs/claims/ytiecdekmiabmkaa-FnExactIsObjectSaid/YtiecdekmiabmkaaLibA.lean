/-
  Abstract values over the machine's values: pure slices as lists, slices and variables of the call's own by literal numbers; what represents what; that it lasts.
-/
import Derived.WalkKit
set_option linter.unusedVariables false
set_option linter.unusedSimpArgs false
namespace Go.Abs

/-- An abstract value. 'psl': a slice that is only read, its rows written out (l: the region it lies in). 'hsl': a slice of a row that this call owns (number u). 'ptr': a pointer into such a row (n: how many rows there were). 'mp': a map of the call's own: the one row of number u, its entries in order. -/
inductive V where
  | int (k : IntKind) (n : Int)
  | bool (b : Bool)
  | str (s : List UInt8)
  | agg (cs : List V)
  | tup (vs : List V)
  | psl (l sz : Nat) (rows : List (List V))
  | hsl (u i len : Nat)
  | nilsl
  | ptr (u n i off : Nat)
  | pptr (l sz : Nat) (rows : List (List V)) (i off : Nat)
  | nilp
  | mp (u : Nat)
  | fn (f : Nat)
  | junk
  deriving Inhabited

structure HB where
  sz : Nat
  rows : List (List V)

structure Loc where
  blk : Option Nat
  sz : Nat
  n : Nat
  cap : Nat

structure Ctx where
  reg : Nat → Nat → Prop
  lv : Nat → Prop
  loc : Nat → Option Loc
  nx : Nat

def HSL (L : Loc) (i len : Nat) (v : Value) : Prop :=
  match L.blk with
  | some b => L.sz ≠ 0 ∧ v = .slice (some ⟨b, i * L.sz, none⟩) len (L.cap - i)
  | none => v = .slice none 0 0

mutual
inductive Rep (C : Ctx) (w : World) : Value → V → Prop
  | int (k : IntKind) (n : Int) : Rep C w (.int k n) (.int k n)
  | bool (b : Bool) : Rep C w (.bool b) (.bool b)
  | str (s : List UInt8) : Rep C w (.string ⟨s.toArray⟩) (.str s)
  | agg {vs : List Value} {cs : List V} (h : RepL C w vs cs) : Rep C w (.agg ⟨vs⟩) (.agg cs)
  | tup {vs : List Value} {cs : List V} (h : RepL C w vs cs) : Rep C w (.tuple ⟨vs⟩) (.tup cs)
  | psl0 (a : Option Addr) (cap l sz : Nat) : Rep C w (.slice a 0 cap) (.psl l sz [])
  | psl {l b off sz len cap : Nat} {rows : List (List V)} (vals : Nat → List Value) (hl : C.lv l) (hn : l < C.nx) (hb : C.reg l b) (hlen : len = rows.length) (hcap : len ≤ cap)
      (hc : ∀ i row, rows[i]? = some row → (vals i).length = sz ∧ ∀ j v, (vals i)[j]? = some v → w.cell? ⟨b, off + i * sz + j, none⟩ = some v)
      (hr : ∀ i row, rows[i]? = some row → RepL C w (vals i) row) : Rep C w (.slice (some ⟨b, off, none⟩) len cap) (.psl l sz rows)
  | psld {l sz : Nat} {rows : List (List V)} (v : Value) (hl : ¬ C.lv l) (hn : l < C.nx) : Rep C w v (.psl l sz rows)
  | hsl {u i len : Nat} {v : Value} (hu : u < C.nx) (h : ∀ L, C.loc u = some L → i + len ≤ L.n ∧ (i + len = L.n → HSL L i len v)) : Rep C w v (.hsl u i len)
  | nilsl : Rep C w (.slice none 0 0) .nilsl
  | ptr {u n i off : Nat} {v : Value} (hu : u < C.nx) (h : ∀ L, C.loc u = some L → n ≤ L.n ∧ (n = L.n → ∃ b, L.blk = some b ∧ L.sz ≠ 0 ∧ v = .pointer (some ⟨b, i * L.sz + off, none⟩))) : Rep C w v (.ptr u n i off)
  | mp {u : Nat} {v : Value} (hu : u < C.nx) (h : ∀ L, C.loc u = some L → 1 ≤ L.n ∧ (1 = L.n → ∃ b, L.blk = some b ∧ L.sz = 0 ∧ v = .map (some b))) : Rep C w v (.mp u)
  | pptr {l b o sz i off : Nat} {rows : List (List V)} (vals : Nat → List Value) (hl : C.lv l) (hn : l < C.nx) (hb : C.reg l b)
      (hc : ∀ i row, rows[i]? = some row → (vals i).length = sz ∧ ∀ j v, (vals i)[j]? = some v → w.cell? ⟨b, o + i * sz + j, none⟩ = some v)
      (hr : ∀ i row, rows[i]? = some row → RepL C w (vals i) row) : Rep C w (.pointer (some ⟨b, o + i * sz + off, none⟩)) (.pptr l sz rows i off)
  | pptrd {l sz i off : Nat} {rows : List (List V)} (v : Value) (hl : ¬ C.lv l) (hn : l < C.nx) : Rep C w v (.pptr l sz rows i off)
  | nilp : Rep C w (.pointer none) .nilp
  | fn (f : Nat) : Rep C w (.func (.func f) #[] #[]) (.fn f)
  | junk (v : Value) : Rep C w v .junk
inductive RepL (C : Ctx) (w : World) : List Value → List V → Prop
  | nil : RepL C w [] []
  | cons {v : Value} {x : V} {vs : List Value} {xs : List V} (h : Rep C w v x) (t : RepL C w vs xs) : RepL C w (v :: vs) (x :: xs)
end

structure Ext (C C' : Ctx) (w w' : World) : Prop where
  nx : C.nx ≤ C'.nx
  loc : ∀ u L', u < C.nx → C'.loc u = some L' → ∃ L, C.loc u = some L ∧ (L' = L ∨ L.n < L'.n)
  lv : ∀ l, l < C.nx → C'.lv l → C.lv l
  reg : ∀ l b, l < C.nx → C'.lv l → C.reg l b → C'.reg l b ∧ w'.heap[b]? = w.heap[b]?

theorem cell_of_block {w w' : World} {b : Nat} (h : w'.heap[b]? = w.heap[b]?) (o : Nat) : w'.cell? ⟨b, o, none⟩ = w.cell? ⟨b, o, none⟩ := by
  unfold World.cell?; simp [h]

mutual
theorem Rep.mono {C C' : Ctx} {w w' : World} (E : Ext C C' w w') : ∀ {v : Value} {x : V}, Rep C w v x → Rep C' w' v x
  | _, _, .int k n => .int k n
  | _, _, .bool b => .bool b
  | _, _, .str s => .str s
  | _, _, .agg h => .agg (RepL.mono E h)
  | _, _, .tup h => .tup (RepL.mono E h)
  | _, _, .psl0 a c l s => .psl0 a c l s
  | _, _, .psl (l := l) (b := b) vals hl hn hb hlen hcap hc hr => by
    by_cases h : C'.lv l
    · have e := E.reg l b hn h hb
      exact .psl vals h (Nat.lt_of_lt_of_le hn E.nx) e.1 hlen hcap (fun i row hi => ⟨(hc i row hi).1, fun j v hj => by rw [cell_of_block e.2]; exact (hc i row hi).2 j v hj⟩)
        (fun i row hi => RepL.mono E (hr i row hi))
    · exact .psld _ h (Nat.lt_of_lt_of_le hn E.nx)
  | _, _, .psld v hl hn => .psld v (fun h => hl (E.lv _ hn h)) (Nat.lt_of_lt_of_le hn E.nx)
  | _, _, .hsl (u := u) hu h => .hsl (Nat.lt_of_lt_of_le hu E.nx) (fun L' hL' => by
    obtain ⟨L, hL, hor⟩ := E.loc u L' hu hL'
    have := h L hL
    rcases hor with rfl | hlt
    · exact this
    · exact ⟨by omega, fun he => by omega⟩)
  | _, _, .nilsl => .nilsl
  | _, _, .ptr (u := u) hu h => .ptr (Nat.lt_of_lt_of_le hu E.nx) (fun L' hL' => by
    obtain ⟨L, hL, hor⟩ := E.loc u L' hu hL'
    have := h L hL
    rcases hor with rfl | hlt
    · exact this
    · exact ⟨by omega, fun he => by omega⟩)
  | _, _, .mp (u := u) hu h => .mp (Nat.lt_of_lt_of_le hu E.nx) (fun L' hL' => by
    obtain ⟨L, hL, hor⟩ := E.loc u L' hu hL'
    have := h L hL
    rcases hor with rfl | hlt
    · exact this
    · exact ⟨by omega, fun he => by omega⟩)
  | _, _, .pptr (l := l) (b := b) vals hl hn hb hc hr => by
    by_cases h : C'.lv l
    · have e := E.reg l b hn h hb
      exact .pptr vals h (Nat.lt_of_lt_of_le hn E.nx) e.1 (fun i row hi => ⟨(hc i row hi).1, fun j v hj => by rw [cell_of_block e.2]; exact (hc i row hi).2 j v hj⟩)
        (fun i row hi => RepL.mono E (hr i row hi))
    · exact .pptrd _ h (Nat.lt_of_lt_of_le hn E.nx)
  | _, _, .pptrd v hl hn => .pptrd v (fun h => hl (E.lv _ hn h)) (Nat.lt_of_lt_of_le hn E.nx)
  | _, _, .nilp => .nilp
  | _, _, .fn f => .fn f
  | _, _, .junk v => .junk v
theorem RepL.mono {C C' : Ctx} {w w' : World} (E : Ext C C' w w') : ∀ {vs : List Value} {xs : List V}, RepL C w vs xs → RepL C' w' vs xs
  | _, _, .nil => .nil
  | _, _, .cons h t => .cons (Rep.mono E h) (RepL.mono E t)
end

theorem Ext.refl (C : Ctx) (w : World) : Ext C C w w :=
  ⟨Nat.le_refl _, fun _ L _ h => ⟨L, h, .inl rfl⟩, fun _ _ h => h, fun _ _ _ _ h => ⟨h, rfl⟩⟩

theorem Ext.trans {C C1 C2 : Ctx} {w w1 w2 : World} (E : Ext C C1 w w1) (F : Ext C1 C2 w1 w2) : Ext C C2 w w2 :=
  ⟨Nat.le_trans E.nx F.nx, fun u L' hu hL' => by
      obtain ⟨L1, h1, o1⟩ := F.loc u L' (Nat.lt_of_lt_of_le hu E.nx) hL'
      obtain ⟨L, h, o⟩ := E.loc u L1 hu h1
      refine ⟨L, h, ?_⟩
      rcases o with rfl | o <;> rcases o1 with rfl | o1
      · exact .inl rfl
      · exact .inr o1
      · exact .inr o
      · exact .inr (by omega),
    fun l hl h => E.lv l hl (F.lv l (Nat.lt_of_lt_of_le hl E.nx) h),
    fun l b hl h hb => by
      have h1 := F.lv l (Nat.lt_of_lt_of_le hl E.nx) h
      have a := E.reg l b hl h1 hb
      have c := F.reg l b (Nat.lt_of_lt_of_le hl E.nx) h a.1
      exact ⟨c.1, c.2.trans a.2⟩⟩

theorem RepL.length {C : Ctx} {w : World} : ∀ {vs : List Value} {xs : List V}, RepL C w vs xs → vs.length = xs.length
  | _, _, .nil => rfl
  | _, _, .cons _ t => by simp [t.length]

theorem RepL.get {C : Ctx} {w : World} : ∀ {vs : List Value} {xs : List V}, RepL C w vs xs → ∀ (i : Nat) (x : V), xs[i]? = some x → ∃ v, vs[i]? = some v ∧ Rep C w v x
  | _, _, .nil, i, x, h => by simp at h
  | _, _, .cons (v := v) hv t, 0, x, h => by simp at h; subst h; exact ⟨v, by simp, hv⟩
  | _, _, .cons hv t, i + 1, x, h => by simpa using t.get i x (by simpa using h)

theorem RepL.append {C : Ctx} {w : World} : ∀ {vs : List Value} {xs : List V} {us : List Value} {ys : List V}, RepL C w vs xs → RepL C w us ys → RepL C w (vs ++ us) (xs ++ ys)
  | _, _, _, _, .nil, h => h
  | _, _, _, _, .cons hv t, h => .cons hv (t.append h)

theorem RepL.drop {C : Ctx} {w : World} : ∀ {vs : List Value} {xs : List V}, RepL C w vs xs → ∀ n, RepL C w (vs.drop n) (xs.drop n)
  | _, _, .nil, n => by simpa using RepL.nil
  | _, _, .cons hv t, 0 => .cons hv t
  | _, _, .cons hv t, n + 1 => by simpa using t.drop n

theorem RepL.take {C : Ctx} {w : World} : ∀ {vs : List Value} {xs : List V}, RepL C w vs xs → ∀ n, RepL C w (vs.take n) (xs.take n)
  | _, _, .nil, n => by simpa using RepL.nil
  | _, _, .cons hv t, 0 => by simpa using RepL.nil
  | _, _, .cons hv t, n + 1 => by simpa using RepL.cons hv (t.take n)

theorem RepL.set {C : Ctx} {w : World} : ∀ {vs : List Value} {xs : List V}, RepL C w vs xs → ∀ n v x, Rep C w v x → RepL C w (vs.set n v) (xs.set n x)
  | _, _, .nil, n, _, _, _ => by simpa using RepL.nil
  | _, _, .cons hv t, 0, _, _, h => by simpa using RepL.cons h t
  | _, _, .cons hv t, n + 1, v, x, h => by simpa using RepL.cons hv (t.set n v x h)

end Go.Abs

namespace Go.Abs

/-! ### Types -/
inductive TK where
  | int (k : IntKind)
  | bool
  | string
  | slice (e : Nat)
  | ptr (e : Nat)
  | struct (fs : List (Nat × Nat))
  | map (k e : Nat)
  | other
structure TI where
  kind : TK
  size : Nat
  bytes : Nat
  zero : List V
  agg : Bool

def toV : Value → V
  | .int k n => .int k n
  | .bool b => .bool b
  | .string s => .str s.data.toList
  | .slice none 0 0 => .nilsl
  | .pointer none => .nilp
  | .tuple ⟨[]⟩ => .tup []
  | .func (.func f) ⟨[]⟩ ⟨[]⟩ => .fn f
  | _ => .junk

theorem rep_toV (C : Ctx) (w : World) (v : Value) : Rep C w v (toV v) := by
  unfold toV
  split
  · exact .int _ _
  · exact .bool _
  · rename_i s; have := Rep.str (C := C) (w := w) s.data.toList; simpa using this
  · exact .nilsl
  · exact .nilp
  · exact .tup .nil
  · exact .fn _
  · exact .junk _

theorem repL_toV (C : Ctx) (w : World) : ∀ vs : List Value, RepL C w vs (vs.map toV)
  | [] => .nil
  | v :: vs => .cons (rep_toV C w v) (repL_toV C w vs)

def tkOf (P : Program) (t : Nat) : TK :=
  match P.underlying t with
  | some (.int k) => .int k
  | some .bool => .bool
  | some .string => .string
  | some (.slice e) => .slice e
  | some (.pointer e) => .ptr e
  | some (.struct fs) => .struct (fs.toList.map fun f => (f.offset, f.type))
  | some (.map k e) => .map k e
  | _ => .other
def aggOf (P : Program) (t : Nat) : Bool :=
  match P.underlying t with
  | some (.struct _) | some (.array _ _) => true
  | _ => false
def zeroOf (P : Program) (t : Nat) : List V := (((P.info? t).bind (·.zero)).map (·.cells.toList.map toV)).getD []
def tiOf (P : Program) (t : Nat) : TI := { kind := tkOf P t, size := P.cellsOf t, bytes := P.bytesOf t, zero := zeroOf P t, agg := aggOf P t }
/-- The table is the program's own, for types that there are. -/
def TabOK (P : Program) (T : List TI) : Prop := ∀ t i, T[t]? = some i → i = tiOf P t ∧ (P.info? t).isSome = true ∧ (P.underlying t).isSome = true

theorem tabOK_of {P : Program} {T : List TI} {n : Nat} (h : T = (List.range n).map (tiOf P)) (h2 : (List.range n).all (fun t => (P.info? t).isSome && (P.underlying t).isSome) = true) : TabOK P T := by
  intro t i hi
  subst h
  rw [List.getElem?_map] at hi
  rcases Nat.lt_or_ge t n with hn | hn
  · rw [List.getElem?_range hn] at hi
    simp at hi
    have := List.all_eq_true.1 h2 t (List.mem_range.2 hn)
    simp at this
    exact ⟨hi.symm, this.1, this.2⟩
  · rw [List.getElem?_eq_none (by simpa using hn)] at hi
    simp at hi

section
variable {P : Program} {T : List TI} {t : Nat} {i : TI}
theorem TabOK.info (h : TabOK P T) (ht : T[t]? = some i) : ∃ j, P.info? t = some j ∧ j.size = i.size ∧ j.bytes = i.bytes := by
  obtain ⟨rfl, h1, _⟩ := h t i ht
  obtain ⟨j, hj⟩ := Option.isSome_iff_exists.1 h1
  exact ⟨j, hj, by simp [tiOf, Program.cellsOf, hj], by simp [tiOf, Program.bytesOf, hj]⟩
theorem TabOK.size (h : TabOK P T) (ht : T[t]? = some i) (w : World) : (sizeOf t).run P w = .ok i.size w := by
  obtain ⟨j, hj, hs, _⟩ := h.info ht
  simp [sizeOf, typeInfo, hj, hs]
theorem TabOK.tinfo (h : TabOK P T) (ht : T[t]? = some i) : ∃ j, (∀ w, (typeInfo t).run P w = .ok j w) ∧ j.size = i.size ∧ j.bytes = i.bytes := by
  obtain ⟨j, hj, hs, hb⟩ := h.info ht
  exact ⟨j, fun w => by simp [typeInfo, hj], hs, hb⟩
theorem TabOK.isAgg (h : TabOK P T) (ht : T[t]? = some i) (w : World) : (isAgg t).run P w = .ok i.agg w := by
  obtain ⟨rfl, _, h1⟩ := h t i ht
  obtain ⟨d, hd⟩ := Option.isSome_iff_exists.1 h1
  simp only [Go.isAgg, tiOf, aggOf, Sem.run_bind, run_underlying hd, Result.andThen_ok, hd]
  split <;> simp_all
theorem TabOK.int {k : IntKind} (h : TabOK P T) (ht : T[t]? = some i) (hk : i.kind = .int k) : P.underlying t = some (.int k) := by
  obtain ⟨rfl, _, h1⟩ := h t i ht
  simp only [tiOf, tkOf] at hk
  split at hk <;> simp_all
theorem TabOK.slice {e : Nat} (h : TabOK P T) (ht : T[t]? = some i) (hk : i.kind = .slice e) : P.underlying t = some (.slice e) := by
  obtain ⟨rfl, _, h1⟩ := h t i ht
  simp only [tiOf, tkOf] at hk
  split at hk <;> simp_all
theorem TabOK.ptr {e : Nat} (h : TabOK P T) (ht : T[t]? = some i) (hk : i.kind = .ptr e) : P.underlying t = some (.pointer e) := by
  obtain ⟨rfl, _, h1⟩ := h t i ht
  simp only [tiOf, tkOf] at hk
  split at hk <;> simp_all
theorem TabOK.string (h : TabOK P T) (ht : T[t]? = some i) (hk : i.kind = .string) : P.underlying t = some .string := by
  obtain ⟨rfl, _, h1⟩ := h t i ht
  simp only [tiOf, tkOf] at hk
  split at hk <;> simp_all
theorem TabOK.struct {fs : List (Nat × Nat)} (h : TabOK P T) (ht : T[t]? = some i) (hk : i.kind = .struct fs) : ∃ fields, P.underlying t = some (.struct fields) ∧ fields.toList.map (fun f => (f.offset, f.type)) = fs := by
  obtain ⟨rfl, _, h1⟩ := h t i ht
  simp only [tiOf, tkOf] at hk
  split at hk <;> simp_all
theorem TabOK.map {k e : Nat} (h : TabOK P T) (ht : T[t]? = some i) (hk : i.kind = .map k e) : P.underlying t = some (.map k e) := by
  obtain ⟨rfl, _, h1⟩ := h t i ht
  simp only [tiOf, tkOf] at hk
  split at hk <;> simp_all
theorem TabOK.zero (h : TabOK P T) (ht : T[t]? = some i) (hz : i.zero ≠ []) : ∃ z, (∀ w, (zeroValue t).run P w = .ok z w) ∧ z.cells.toList.map toV = i.zero := by
  obtain ⟨rfl, h1, _⟩ := h t i ht
  obtain ⟨j, hj⟩ := Option.isSome_iff_exists.1 h1
  simp only [tiOf, zeroOf, hj, Option.bind_some] at hz ⊢
  cases hzz : j.zero with
  | none => simp [hzz] at hz
  | some z => exact ⟨z, fun w => by simp [zeroValue, typeInfo, hj, hzz], by simp⟩
end

/-! ### States -/
def eget : List (Nat × V) → Nat → V
  | [], _ => .junk
  | (j, v) :: r, i => bif Nat.beq i j then v else eget r i
def hget : List (Nat × HB) → Nat → Option HB
  | [], _ => none
  | (j, v) :: r, i => bif Nat.beq i j then some v else hget r i

structure St where
  env : List (Nat × V)
  heap : List (Nat × HB)
  nx : Nat
  n : Nat
  lv : List Nat

/-- Regions 0 and 1 live throughout; of others the state says so. -/
def St.live (s : St) (l : Nat) : Bool := Nat.ble l 1 || s.lv.any (Nat.beq l)

def St.put : St → Option Nat → V → Option St
  | s, none, _ => some s
  | ⟨env, heap, nx, n, lv⟩, some d, v => bif Nat.blt d n then some ⟨(d, v) :: env, heap, nx, n, lv⟩ else none

/-- A state with one row more, by the next number. -/
def St.new : St → HB → St
  | ⟨env, heap, nx, n, lv⟩, hb => ⟨env, (nx, hb) :: heap, nx + 1, n, lv⟩
/-- The same, its address in a slot. -/
def St.newP : St → Nat → List (List V) → Option Nat → Option St
  | ⟨env, heap, nx, n, lv⟩, sz, rows, some d => bif Nat.blt d n then some ⟨(d, .ptr nx 1 0 0) :: env, (nx, ⟨sz, rows⟩) :: heap, nx + 1, n, lv⟩ else none
  | ⟨env, heap, nx, n, lv⟩, sz, rows, none => some ⟨env, (nx, ⟨sz, rows⟩) :: heap, nx + 1, n, lv⟩
theorem newP_eq (s : St) (sz : Nat) (rows : List (List V)) (d : Option Nat) : s.newP sz rows d = (s.new ⟨sz, rows⟩).put d (.ptr s.nx 1 0 0) := by cases s; cases d <;> rfl
/-- The same, a slice over it in a slot. -/
def St.newH : St → Nat → List (List V) → Nat → Option Nat → Option St
  | ⟨env, heap, nx, n, lv⟩, sz, rows, len, some d => bif Nat.blt d n then some ⟨(d, .hsl nx 0 len) :: env, (nx, ⟨sz, rows⟩) :: heap, nx + 1, n, lv⟩ else none
  | ⟨env, heap, nx, n, lv⟩, sz, rows, _, none => some ⟨env, (nx, ⟨sz, rows⟩) :: heap, nx + 1, n, lv⟩
theorem newH_eq (s : St) (sz : Nat) (rows : List (List V)) (len : Nat) (d : Option Nat) : s.newH sz rows len d = (s.new ⟨sz, rows⟩).put d (.hsl s.nx 0 len) := by cases s; cases d <;> rfl
/-- A state with a row written. -/
def St.wr : St → Nat → HB → St
  | ⟨env, heap, nx, n, lv⟩, u, hb => ⟨env, (u, hb) :: heap, nx, n, lv⟩

/-- A value, reckoned as far as its head. -/
def V.force : V → Option V
  | .int k n => some (.int k n)
  | .bool b => some (.bool b)
  | .str s => some (.str s)
  | .agg cs => some (.agg cs)
  | .tup vs => some (.tup vs)
  | .psl l sz rows => some (.psl l sz rows)
  | .hsl u i len => some (.hsl u i len)
  | .nilsl => some .nilsl
  | .ptr u n i off => some (.ptr u n i off)
  | .pptr l sz rows i off => some (.pptr l sz rows i off)
  | .nilp => some .nilp
  | .mp u => some (.mp u)
  | .fn f => some (.fn f)
  | .junk => some .junk
theorem force_eq (x y : V) (h : x.force = some y) : y = x := by
  cases x <;> simp [V.force] at h <;> exact h.symm

def ev (s : St) : Operand → V
  | .tmp t => eget s.env t
  | .const v => toV v
  | .func f => .fn f
  | .global _ => .junk

def RepR (C : Ctx) (w : World) (b off sz : Nat) (rows : List (List V)) : Prop :=
  ∃ vals : Nat → List Value, ∀ i row, rows[i]? = some row → (vals i).length = sz ∧ (∀ j v, (vals i)[j]? = some v → w.cell? ⟨b, off + i * sz + j, none⟩ = some v) ∧ RepL C w (vals i) row

/-- The block is a map; its entries, in order, are the one row. -/
def MapB (C : Ctx) (w : World) (b : Nat) (rows : List (List V)) : Prop :=
  ∃ es clock ents, rows = [ents] ∧ w.heap[b]? = some (.map es clock) ∧ RepL C w (es.toList.map fun e => .tuple ⟨[e.key, e.val]⟩) ents
def Cells (C : Ctx) (w : World) (b : Nat) (L : Loc) (rows : List (List V)) : Prop :=
  ∃ cs el fz, w.heap[b]? = some (.cells cs el fz) ∧ cs.size = L.cap * L.sz ∧ rows.length ≤ L.cap ∧ (∀ o, o < cs.size → ¬ (fz.1 ≤ o ∧ o < fz.2)) ∧ RepR C w b 0 L.sz rows
def Blk (C : Ctx) (w : World) (L : Loc) (rows : List (List V)) : Prop :=
  match L.blk with
  | none => rows = [] ∧ L.cap = 0
  | some b => (L.sz = 0 → MapB C w b rows) ∧ (L.sz ≠ 0 → Cells C w b L rows)
structure HSt (C : Ctx) (w : World) (h : List (Nat × HB)) : Prop where
  dom : ∀ u, hget h u = none → C.loc u = none
  ent : ∀ u hb, hget h u = some hb → ∃ L, C.loc u = some L ∧ L.sz = hb.sz ∧ L.n = hb.rows.length ∧ Blk C w L hb.rows
  lt : ∀ u L, C.loc u = some L → u < C.nx
  inj : ∀ u u' L L' b, C.loc u = some L → C.loc u' = some L' → L.blk = some b → L'.blk = some b → u = u'
  own : ∀ u L b l, C.loc u = some L → L.blk = some b → C.lv l → ¬ C.reg l b
  regs : ∀ l b, C.lv l → C.reg l b → b < w.heap.size
  lvs : ∀ l, C.lv l → l < C.nx
  rdis : ∀ l l' b, C.lv l → C.lv l' → C.reg l b → C.reg l' b → l = l'
  zero : C.lv 0 ∧ C.lv 1 ∧ ¬ C.lv 2
  two : 2 < C.nx

structure StRep (C : Ctx) (w : World) (a : Act) (s : St) : Prop where
  defers : a.defers = []
  size : a.tmps.size = s.n
  nx : C.nx = s.nx
  env : ∀ i, Rep C w (a.tmps.getD i undef) (eget s.env i)
  heap : HSt C w s.heap
  lv : ∀ l ∈ s.lv, C.lv l

theorem StRep.live {C : Ctx} {w : World} {a : Act} {s : St} (h : StRep C w a s) {l : Nat} (hl : s.live l = true) : C.lv l := by
  unfold St.live at hl
  rw [Bool.or_eq_true] at hl
  rcases hl with hl | hl
  · rw [Nat.ble_eq] at hl
    have : l = 0 ∨ l = 1 := by omega
    rcases this with rfl | rfl
    · exact h.heap.zero.1
    · exact h.heap.zero.2.1
  · obtain ⟨x, hx, he⟩ := List.any_eq_true.1 hl
    rw [Nat.beq_eq] at he
    subst he
    exact h.lv _ hx

theorem StRep.ev {C : Ctx} {w : World} {a : Act} {s : St} (h : StRep C w a s) (x : Operand) : Rep C w (a.eval x) (ev s x) := by
  cases x with
  | tmp t => exact h.env t
  | const v => exact rep_toV C w v
  | global g => exact .junk _
  | func f => exact .fn f

/-- A world in which all that is there is as it was. -/
structure Agree (w w' : World) : Prop where
  size : w.heap.size ≤ w'.heap.size
  heap : ∀ b, b < w.heap.size → w'.heap[b]? = w.heap[b]?
  os : w'.os = w.os
  out : w'.output = w.output
theorem Agree.refl (w : World) : Agree w w := ⟨Nat.le_refl _, fun _ _ => rfl, rfl, rfl⟩
theorem Agree.trans {w w' w2 : World} (h : Agree w w') (h2 : Agree w' w2) : Agree w w2 :=
  ⟨Nat.le_trans h.1 h2.1, fun b hb => (h2.2 b (Nat.lt_of_lt_of_le hb h.1)).trans (h.2 b hb), h2.os.trans h.os, h2.out.trans h.out⟩
theorem Agree.cell {w w' : World} (h : Agree w w') {b o : Nat} {v : Value} (hc : w.cell? ⟨b, o, none⟩ = some v) : w'.cell? ⟨b, o, none⟩ = some v := by
  rw [cell_of_block (h.2 b (World.block_lt_of_cell? w ⟨b, o, none⟩ hc))]; exact hc

/-! ### Operations that only compute -/
def pbin (op : BinOp) (x y : V) : Option V :=
  match op, x, y with
  | .eql, .int k a, .int k' b => if k = k' then some (.bool (decide (a = b))) else none
  | .neq, .int k a, .int k' b => if k = k' then some (.bool (!decide (a = b))) else none
  | .lss, .int k a, .int k' b => if k = k' then some (.bool (decide (a < b))) else none
  | .leq, .int k a, .int k' b => if k = k' then some (.bool (decide (a ≤ b))) else none
  | .gtr, .int k a, .int k' b => if k = k' then some (.bool (decide (a > b))) else none
  | .geq, .int k a, .int k' b => if k = k' then some (.bool (decide (a ≥ b))) else none
  | .add, .int k a, .int k' b => if k = k' then some (.int k (k.wrap (a + b))) else none
  | .sub, .int k a, .int k' b => if k = k' then some (.int k (k.wrap (a - b))) else none
  | .mul, .int k a, .int k' b => if k = k' then some (.int k (k.wrap (a * b))) else none
  | .eql, .str a, .str b => some (.bool (decide (a = b)))
  | .neq, .str a, .str b => some (.bool (!decide (a = b)))
  | _, _, _ => none

def lenV (s : St) (k : TK) (x : V) : Option V :=
  match k, x with
  | .string, .str s => some (.int .i64 s.length)
  | .slice _, .psl l _ rows => bif s.live l then some (.int .i64 rows.length) else none
  | .slice _, .nilsl => some (.int .i64 0)
  | _, _ => none

/-- So many from 'off' on, written out. -/
def segF : List V → Nat → Nat → Option (List V)
  | _, 0, 0 => some []
  | x :: r, 0, n + 1 => match segF r 0 n with | some l => some (x :: l) | none => none
  | _ :: r, o + 1, n => segF r o n
  | [], _, _ => none
theorem segF_spec : ∀ {row : List V} {off n : Nat} {l : List V}, segF row off n = some l → l = (row.drop off).take n ∧ off + n ≤ row.length
  | row, 0, 0, l, h => by cases row <;> simp [segF] at h <;> simp [h]
  | x :: r, 0, n + 1, l, h => by
    simp only [segF] at h
    split at h
    · rename_i l' hl
      obtain ⟨h1, h2⟩ := segF_spec hl
      simp only [Option.some.injEq] at h
      subst h; subst h1
      simp only [List.drop_zero, List.take_succ_cons, List.length_cons, true_and]
      omega
    · simp at h
  | x :: r, o + 1, n, l, h => by
    obtain ⟨h1, h2⟩ := segF_spec (row := r) (off := o) (by simpa [segF] using h)
    subst h1
    simp only [List.drop_succ_cons, List.length_cons, true_and]
    omega
  | [], 0, n + 1, l, h => by simp [segF] at h
  | [], o + 1, n, l, h => by simp [segF] at h

/-- What lies from 'off' on in a row, read at a type. -/
def loadRow (ti : TI) (row : List V) (off : Nat) : Option V :=
  bif ti.agg then (bif Nat.beq off 0 && Nat.beq ti.size row.length then some (.agg row) else match segF row off ti.size with | some l => some (.agg l) | none => none)
  else row[off]?

def fieldOf (T : List TI) (t k : Nat) : Option (Nat × Nat) :=
  match T[t]? with
  | some { kind := .struct fs, .. } => fs[k]?
  | _ => none

def sizeT (T : List TI) (t : Nat) : Nat := match T[t]? with | some ti => ti.size | none => 0

def convK (T : List TI) (t : Nat) : Option IntKind :=
  match T[t]? with
  | some { kind := .int k, .. } => some k
  | _ => none

def pstep (T : List TI) (s : St) : Op → Option V
  | .move x => (ev s x).force
  | .assign x => (ev s x).force
  | .pick c a b => match ev s c with | .bool t => (bif t then ev s a else ev s b).force | _ => none
  | .binOp op _ x y _ => pbin op (ev s x) (ev s y)
  | .unOp .not _ x => match ev s x with | .bool b => some (.bool (!b)) | _ => none
  | .unOp .neg _ x => match ev s x with | .int k n => some (.int k (k.wrap (0 - n))) | _ => none
  | .extract x i => match ev s x with | .tup vs => vs[i]? | _ => none
  | .nilCheck x => match ev s x with
    | .pptr l sz rows i off => bif s.live l then some (.pptr l sz rows i off) else none
    | .ptr u n i off => (match hget s.heap u with | some hb => bif Nat.beq n hb.rows.length then some (.ptr u n i off) else none | none => none)
    | _ => none
  | .fieldAddr t x k => match fieldOf T t k with
    | some (o, ft) => bif Nat.beq (sizeT T ft) 0 then none else (match ev s x with
      | .pptr l sz rows i off => bif s.live l then some (.pptr l sz rows i (off + o)) else none
      | .ptr u n i off => (match hget s.heap u with | some hb => bif Nat.beq n hb.rows.length then some (.ptr u n i (off + o)) else none | none => none)
      | _ => none)
    | none => none
  | .field t x k => match fieldOf T t k with
    | some (o, ft) => (match ev s x, T[ft]? with
      | .agg cs, some ti => loadRow ti cs o
      | _, _ => none)
    | none => none
  | .load t x => match T[t]? with
    | some ti => (match ev s x with
      | .pptr l _ rows i off => bif s.live l then (match rows[i]? with | some row => loadRow ti row off | none => none) else none
      | .ptr u n i off => (match hget s.heap u with
        | some hb => bif Nat.beq n hb.rows.length then (match hb.rows[i]? with | some row => loadRow ti row off | none => none) else none
        | none => none)
      | _ => none)
    | none => none
  | .convert src dst x => match convK T src, convK T dst, ev s x with
    | some _, some k, .int _ n => some (.int k (k.wrap n))
    | _, _, _ => none
  | .call { callee := .builtin .len, args := ⟨[x]⟩, argTypes := ⟨[t]⟩ } => match T[t]? with
    | some ti => lenV s ti.kind (ev s x)
    | none => none
  | _ => none

theorem agree_cells {w w' : World} (h : Agree w w') {b base : Nat} {vs : List Value} (hc : ∀ j v, vs[j]? = some v → w.cell? ⟨b, base + j, none⟩ = some v) :
    ∀ j v, vs[j]? = some v → w'.cell? ⟨b, base + j, none⟩ = some v := fun j v hj => h.cell (hc j v hj)

theorem addr_add (b o n : Nat) : (⟨b, o, none⟩ : Addr).add n = ⟨b, o + n, none⟩ := by
  unfold Addr.add; split <;> simp_all

section
variable {P : Program} {T : List TI} {C : Ctx} {w : World}

theorem run_part {t : Nat} {ti : TI} (hT : TabOK P T) (ht : T[t]? = some ti) {cs : List Value} {row : List V} {off : Nat} {x : V}
    (hr : RepL C w cs row) (hl : loadRow ti row off = some x) : ∃ v, (∀ w', (part t ⟨cs⟩ off).run P w' = .ok v w') ∧ Rep C w v x := by
  have hlen := hr.length
  unfold loadRow at hl
  unfold part
  cases ha : ti.agg
  · simp only [ha, cond_false] at hl
    obtain ⟨v, hv, hrep⟩ := hr.get off x hl
    exact ⟨v, fun w' => by simp [hT.isAgg ht, ha, hv], hrep⟩
  · simp only [ha, cond_true] at hl
    have key : off + ti.size ≤ row.length → ∃ v, (∀ w', (do
        if (← isAgg t) = true then pure (Value.agg ((⟨cs⟩ : Array Value).extract off (off + (← sizeOf t)))) else
          match (⟨cs⟩ : Array Value)[off]? with
          | some v => pure v
          | none => stuck "part: no such cell" : Sem Value).run P w' = .ok v w') ∧ Rep C w v (.agg ((row.drop off).take ti.size)) := fun _ => by
      refine ⟨.agg ⟨(cs.drop off).take ti.size⟩, fun w' => ?_, .agg ((hr.drop off).take ti.size)⟩
      simp [hT.isAgg ht, ha, hT.size ht, List.extract_eq_take_drop]
    rw [Bool.cond_eq_ite] at hl
    split at hl
    · rename_i hc
      simp only [Bool.and_eq_true, Nat.beq_eq] at hc
      obtain ⟨v, h1, h2⟩ := key (by omega)
      simp only [Option.some.injEq] at hl
      subst hl
      rw [hc.1, List.drop_zero, hc.2, List.take_length] at h2
      exact ⟨v, h1, h2⟩
    · split at hl
      · rename_i l hc
        obtain ⟨hl1, hc2⟩ := segF_spec hc
        simp only [Option.some.injEq] at hl
        subst hl; subst hl1
        exact key hc2
      · simp at hl

theorem run_loadRow {t : Nat} {ti : TI} (hT : TabOK P T) (ht : T[t]? = some ti) {b base off : Nat} {vs : List Value} {row : List V} {x : V}
    (hc : ∀ j v, vs[j]? = some v → w.cell? ⟨b, base + j, none⟩ = some v) (hr : RepL C w vs row) (hl : loadRow ti row off = some x) :
    ∃ v, (∀ w', Agree w w' → (Instr.loadAt t (.pointer (some ⟨b, base + off, none⟩))).run P w' = .ok v w') ∧ Rep C w v x := by
  have hlen := hr.length
  unfold loadRow at hl
  cases ha : ti.agg
  · simp only [ha, cond_false] at hl
    obtain ⟨v, hv, hrep⟩ := hr.get off x hl
    refine ⟨v, fun w' hw => ?_, hrep⟩
    have := hw.cell (hc off v hv)
    simp [Instr.loadAt, Instr.sureAddr, loadVar, hT.isAgg ht, ha, this]
  · simp only [ha, cond_true] at hl
    have key : off + ti.size ≤ row.length → ∃ v, (∀ w', Agree w w' → (Instr.loadAt t (.pointer (some ⟨b, base + off, none⟩))).run P w' = .ok v w') ∧
        Rep C w v (.agg ((row.drop off).take ti.size)) := fun hle => by
      refine ⟨.agg ⟨(vs.drop off).take ti.size⟩, fun w' hw => ?_, .agg ((hr.drop off).take ti.size)⟩
      have e : ((vs.drop off).take ti.size).length = ti.size := by simp; omega
      have h2 := run_loadCells_list (P := P) w' ⟨b, base + off, none⟩ ((vs.drop off).take ti.size) (fun j v hj => by
        rw [addr_add]
        rw [List.getElem?_take] at hj
        split at hj
        · rw [List.getElem?_drop] at hj
          have := hw.cell (hc (off + j) v hj)
          rwa [Nat.add_assoc]
        · simp at hj)
      rw [e] at h2
      simp [Instr.loadAt, Instr.sureAddr, loadVar, hT.isAgg ht, ha, hT.size ht, h2]
    rw [Bool.cond_eq_ite] at hl
    split at hl
    · rename_i hc'
      simp only [Bool.and_eq_true, Nat.beq_eq] at hc'
      obtain ⟨v, h1, h2⟩ := key (by omega)
      simp only [Option.some.injEq] at hl
      subst hl
      rw [hc'.1, List.drop_zero, hc'.2, List.take_length] at h2
      exact ⟨v, by simpa [hc'.1] using h1, h2⟩
    · split at hl
      · rename_i l hc'
        obtain ⟨hl1, hc2⟩ := segF_spec hc'
        simp only [Option.some.injEq] at hl
        subst hl; subst hl1
        exact key hc2
      · simp at hl

theorem bytes_size (s : List UInt8) : (⟨s.toArray⟩ : ByteArray).size = s.length := by
  show s.toArray.size = _
  simp

theorem tobytes_eq (s t : List UInt8) : (((⟨s.toArray⟩ : ByteArray).toList == (⟨t.toArray⟩ : ByteArray).toList)) = decide (s = t) := by
  rw [Bool.eq_iff_iff]; simp [ByteArray.toList_eq]

theorem int_beq (a b : Int) : (a == b) = decide (a = b) := by rw [Bool.eq_iff_iff]; simp
theorem int_bne (a b : Int) : (a != b) = !decide (a = b) := by rw [Bool.eq_iff_iff]; simp

theorem pbin_sound {op : BinOp} {x y : V} {r : V} {a b : Value} (t : Nat) (xo yo : Operand) (ha : Rep C w a x) (hb : Rep C w b y) (h : pbin op x y = some r) :
    ∃ v, (∀ w', (do eqGuard op t xo yo a b; binOp op t a b : Sem Value).run P w' = .ok v w') ∧ Rep C w v r := by
  unfold pbin at h
  split at h
  · cases ha; cases hb
    split at h
    · rename_i hk
      simp only [Option.some.injEq] at h
      subst hk; subst h
      refine ⟨_, ?h, .bool _⟩
      case h => intro w'; simp [eqGuard, binOp, Op.intCmp, int_beq, int_bne]
    · simp at h
  · cases ha; cases hb
    split at h
    · rename_i hk
      simp only [Option.some.injEq] at h
      subst hk; subst h
      refine ⟨_, ?h, .bool _⟩
      case h => intro w'; simp [eqGuard, binOp, Op.intCmp, int_beq, int_bne]
    · simp at h
  · cases ha; cases hb
    split at h
    · rename_i hk
      simp only [Option.some.injEq] at h
      subst hk; subst h
      refine ⟨_, ?h, .bool _⟩
      case h => intro w'; simp [eqGuard, binOp, Op.intCmp, int_beq, int_bne]
    · simp at h
  · cases ha; cases hb
    split at h
    · rename_i hk
      simp only [Option.some.injEq] at h
      subst hk; subst h
      refine ⟨_, ?h, .bool _⟩
      case h => intro w'; simp [eqGuard, binOp, Op.intCmp, int_beq, int_bne]
    · simp at h
  · cases ha; cases hb
    split at h
    · rename_i hk
      simp only [Option.some.injEq] at h
      subst hk; subst h
      refine ⟨_, ?h, .bool _⟩
      case h => intro w'; simp [eqGuard, binOp, Op.intCmp, int_beq, int_bne]
    · simp at h
  · cases ha; cases hb
    split at h
    · rename_i hk
      simp only [Option.some.injEq] at h
      subst hk; subst h
      refine ⟨_, ?h, .bool _⟩
      case h => intro w'; simp [eqGuard, binOp, Op.intCmp, int_beq, int_bne]
    · simp at h
  · cases ha; cases hb
    split at h
    · rename_i hk
      simp only [Option.some.injEq] at h
      subst hk; subst h
      refine ⟨_, ?h, .int _ _⟩
      case h => intro w'; simp [eqGuard, binOp, Op.intArith]
    · simp at h
  · cases ha; cases hb
    split at h
    · rename_i hk
      simp only [Option.some.injEq] at h
      subst hk; subst h
      refine ⟨_, ?h, .int _ _⟩
      case h => intro w'; simp [eqGuard, binOp, Op.intArith]
    · simp at h
  · cases ha; cases hb
    split at h
    · rename_i hk
      simp only [Option.some.injEq] at h
      subst hk; subst h
      refine ⟨_, ?h, .int _ _⟩
      case h => intro w'; simp [eqGuard, binOp, Op.intArith]
    · simp at h
  · cases ha; cases hb
    simp only [Option.some.injEq] at h
    subst h
    refine ⟨_, ?h, .bool _⟩
    case h => intro w'; simp only [eqGuard, binOp, Op.stringOp, tobytes_eq]; simp
  · cases ha; cases hb
    simp only [Option.some.injEq] at h
    subst h
    refine ⟨_, ?h, .bool _⟩
    case h => intro w'; simp only [eqGuard, binOp, Op.stringOp, tobytes_eq]; simp
  · simp at h

theorem len_sound {a0 : Act} {s : St} {x r : V} {a : Value} {t : Nat} {ti : TI} (ty : Nat) (hT : TabOK P T) (ht : T[t]? = some ti) (hs : StRep C w a0 s) (ha : Rep C w a x) (h : lenV s ti.kind x = some r) :
    ∃ v, (∀ w', (Builtin.len_ #[t] ty #[a]).run P w' = .ok v w') ∧ Rep C w v r := by
  unfold lenV at h
  split at h
  · rename_i hk
    cases ha
    simp only [Option.some.injEq] at h
    subst h
    exact ⟨_, fun w' => by simp [Builtin.len_, run_underlying (hT.string ht hk), goInt, bytes_size], .int _ _⟩
  · rename_i e l sz rows hk
    rw [Bool.cond_eq_ite] at h
    split at h
    · rename_i hl
      simp only [Option.some.injEq] at h
      subst h
      have hl' := hs.live hl
      cases ha with
      | psl0 a c l s => exact ⟨_, fun w' => by simp [Builtin.len_, run_underlying (hT.slice ht hk), goInt], .int _ _⟩
      | psl vals h1 h2 h3 hlen _ h4 h5 => subst hlen; exact ⟨_, fun w' => by simp [Builtin.len_, run_underlying (hT.slice ht hk), goInt], .int _ _⟩
      | psld v hn _ => exact absurd hl' hn
    · simp at h
  · rename_i hk
    cases ha
    simp only [Option.some.injEq] at h
    subst h
    exact ⟨_, fun w' => by simp [Builtin.len_, run_underlying (hT.slice ht hk), goInt], .int _ _⟩
  · simp at h

theorem fieldOf_spec {t k o ft : Nat} (h : fieldOf T t k = some (o, ft)) : ∃ ti fs, T[t]? = some ti ∧ ti.kind = .struct fs ∧ fs[k]? = some (o, ft) := by
  unfold fieldOf at h
  split at h
  · rename_i fs _ _ _ _ ht
    exact ⟨_, fs, ht, rfl, h⟩
  · simp at h

theorem convK_spec {t : Nat} {k : IntKind} (h : convK T t = some k) : ∃ ti, T[t]? = some ti ∧ ti.kind = .int k := by
  unfold convK at h
  split at h
  · rename_i ht
    simp only [Option.some.injEq] at h
    subst h
    exact ⟨_, ht, rfl⟩
  · simp at h

/-- The machine's fields at the place of the table's. -/
theorem field_at {fields : Array Field} {fs : List (Nat × Nat)} (h : fields.toList.map (fun f => (f.offset, f.type)) = fs) {k o ft : Nat} (hk : fs[k]? = some (o, ft)) :
    ∃ f, fields[k]? = some f ∧ f.offset = o ∧ f.type = ft := by
  subst h
  rw [List.getElem?_map] at hk
  cases hf : fields.toList[k]? with
  | none => simp [hf] at hk
  | some f =>
    simp [hf] at hk
    exact ⟨f, by simpa using hf, hk.1, hk.2⟩

theorem sizeT_spec {t : Nat} (h : Nat.beq (sizeT T t) 0 = false) : ∃ ti, T[t]? = some ti ∧ ti.size ≠ 0 := by
  unfold sizeT at h
  split at h
  · rename_i ti ht
    exact ⟨ti, ht, fun e => by simp [e] at h⟩
  · simp at h

theorem hget_loc {h : List (Nat × HB)} (hs : HSt C w h) {u : Nat} {hb : HB} (hu : hget h u = some hb) : ∃ L, C.loc u = some L ∧ L.sz = hb.sz ∧ L.n = hb.rows.length ∧ Blk C w L hb.rows :=
  hs.ent u hb hu

theorem ptr_spec {h : List (Nat × HB)} (hs : HSt C w h) {u n i off : Nat} {v : Value} (hr : Rep C w v (.ptr u n i off)) {hb : HB} (hu : hget h u = some hb) (hn : n = hb.rows.length) :
    ∃ L b, C.loc u = some L ∧ L.sz = hb.sz ∧ L.n = hb.rows.length ∧ Blk C w L hb.rows ∧ L.blk = some b ∧ L.sz ≠ 0 ∧ v = .pointer (some ⟨b, i * hb.sz + off, none⟩) := by
  obtain ⟨L, h1, h2, h3, h4⟩ := hs.ent u hb hu
  cases hr with
  | ptr _ h =>
    obtain ⟨_, h6⟩ := h L h1
    obtain ⟨b, h7, h9, h8⟩ := h6 (by omega)
    exact ⟨L, b, h1, h2, h3, h4, h7, h9, by rw [h8, h2]⟩

theorem mp_spec {h : List (Nat × HB)} (hs : HSt C w h) {u : Nat} {v : Value} (hr : Rep C w v (.mp u)) {hb : HB} (hu : hget h u = some hb) (hn : 1 = hb.rows.length) :
    ∃ L b, C.loc u = some L ∧ L.sz = hb.sz ∧ L.n = 1 ∧ L.blk = some b ∧ MapB C w b hb.rows ∧ v = .map (some b) := by
  obtain ⟨L, h1, h2, h3, h4⟩ := hs.ent u hb hu
  cases hr with
  | mp _ h =>
    obtain ⟨_, h6⟩ := h L h1
    obtain ⟨b, h7, h9, h8⟩ := h6 (by omega)
    unfold Blk at h4
    rw [h7] at h4
    exact ⟨L, b, h1, h2, by omega, h7, h4.1 h9, h8⟩

theorem pptr_spec {l sz i off : Nat} {rows : List (List V)} {v : Value} (hr : Rep C w v (.pptr l sz rows i off)) (hl : C.lv l) :
    ∃ b o, C.reg l b ∧ RepR C w b o sz rows ∧ v = .pointer (some ⟨b, o + i * sz + off, none⟩) := by
  cases hr with
  | pptr vals h1 h2 h3 h4 h5 => exact ⟨_, _, h3, ⟨vals, fun i row hi => ⟨(h4 i row hi).1, (h4 i row hi).2, h5 i row hi⟩⟩, rfl⟩
  | pptrd _ h1 _ => exact absurd hl h1

/-- WHAT ONLY COMPUTES, COMPUTES WHAT IT SAYS, in every world that agrees with this one. -/
theorem pstep_sound {s : St} {a : Act} {o : Oper} {x : V} (hT : TabOK P T) (hs : StRep C w a s) (h : pstep T s o.op = some x) :
    ∃ v, (∀ w', Agree w w' → (execOp a.eval o).run P w' = .ok (.value v) w') ∧ Rep C w v x := by
  unfold pstep at h
  split at h
  · rename_i y ho
    rw [force_eq _ _ h]
    exact ⟨_, fun w' _ => by simp [execOp, ho], hs.ev y⟩
  · rename_i y ho
    rw [force_eq _ _ h]
    exact ⟨_, fun w' _ => by simp [execOp, ho], hs.ev y⟩
  · rename_i c p q ho
    split at h
    · rename_i t hc
      rw [force_eq _ _ h]
      have hcv := hs.ev c
      rw [hc] at hcv
      generalize hce : a.eval c = cv at hcv
      cases hcv
      refine ⟨bif t then a.eval p else a.eval q, fun w' _ => ?_, ?_⟩
      · simp only [execOp, ho, hce, asBool]
        cases t <;> simp
      · cases t
        · exact hs.ev q
        · exact hs.ev p
    · simp at h
  · rename_i op t p q t' ho
    obtain ⟨v, h1, h2⟩ := pbin_sound (P := P) t p q (hs.ev p) (hs.ev q) h
    exact ⟨v, fun w' _ => by
      have := h1 w'
      simp only [execOp, ho, Sem.run_bind] at this ⊢
      rw [this]; rfl, h2⟩
  · rename_i t y ho
    split at h
    · rename_i b hb
      simp only [Option.some.injEq] at h
      subst h
      have hv := hs.ev y
      rw [hb] at hv
      generalize he : a.eval y = v at hv
      cases hv
      exact ⟨_, fun w' _ => by simp [execOp, ho, he, Op.unary], .bool _⟩
    · simp at h
  · rename_i t y ho
    split at h
    · rename_i k n hb
      simp only [Option.some.injEq] at h
      subst h
      have hv := hs.ev y
      rw [hb] at hv
      generalize he : a.eval y = v at hv
      cases hv
      exact ⟨_, fun w' _ => by simp [execOp, ho, he, Op.unary, Op.intArith], .int _ _⟩
    · simp at h
  · rename_i y i ho
    split at h
    · rename_i vs hb
      have hv := hs.ev y
      rw [hb] at hv
      generalize he : a.eval y = v at hv
      cases hv with
      | tup hl =>
        obtain ⟨v, hv, hr⟩ := hl.get i x h
        exact ⟨v, fun w' _ => by simp [execOp, ho, he, Instr.extract, hv], hr⟩
    · simp at h
  · rename_i y ho
    split at h
    · rename_i l sz rows i off hb
      rw [Bool.cond_eq_ite] at h
      split at h
      · rename_i hl
        simp only [Option.some.injEq] at h
        subst h
        have hv := hs.ev y
        rw [hb] at hv
        obtain ⟨b, o', _, _, he⟩ := pptr_spec hv (hs.live hl)
        exact ⟨a.eval y, fun w' _ => by simp [execOp, ho, he], hv⟩
      · simp at h
    · rename_i u n i off hb
      split at h
      · rename_i hbk hu
        rw [Bool.cond_eq_ite] at h
        split at h
        · rename_i hn
          rw [Nat.beq_eq] at hn
          simp only [Option.some.injEq] at h
          subst h
          have hv := hs.ev y
          rw [hb] at hv
          obtain ⟨L, b, _, _, _, _, _, _, he⟩ := ptr_spec hs.heap hv hu hn
          exact ⟨a.eval y, fun w' _ => by simp [execOp, ho, he], hv⟩
        · simp at h
      · simp at h
    · simp at h
  · rename_i t y k ho
    split at h
    · rename_i o' ft hf
      obtain ⟨ti, fs, ht, hk, hfs⟩ := fieldOf_spec hf
      obtain ⟨fields, hu, hmap⟩ := hT.struct ht hk
      obtain ⟨f, hfk, hfo, hft⟩ := field_at hmap hfs
      rw [Bool.cond_eq_ite] at h
      split at h
      · simp at h
      · rename_i hz
        obtain ⟨fi, hfi, hfz⟩ := sizeT_spec (T := T) (t := ft) (Bool.eq_false_iff.2 hz)
        split at h
        · rename_i l sz rows i off hb
          rw [Bool.cond_eq_ite] at h
          split at h
          · rename_i hl
            simp only [Option.some.injEq] at h
            subst h
            have hv := hs.ev y
            rw [hb] at hv
            generalize hae : a.eval y = v at hv
            cases hv with
            | pptrd _ h1 _ => exact absurd (hs.live hl) h1
            | pptr vals h1 h2 h3 h4 h5 =>
              refine ⟨_, fun w' _ => ?_, .pptr (off := off + o') vals h1 h2 h3 h4 h5⟩
              subst hft
              simp [execOp, ho, hae, Instr.fieldAt, run_underlying hu, hfk, Instr.sureAddr, fieldPlace, hT.size hfi, hfz, addr_add, hfo, Nat.add_assoc]
          · simp at h
        · rename_i u n i off hb
          split at h
          · rename_i hbk hu'
            rw [Bool.cond_eq_ite] at h
            split at h
            · rename_i hn
              rw [Nat.beq_eq] at hn
              simp only [Option.some.injEq] at h
              subst h
              have hv := hs.ev y
              rw [hb] at hv
              obtain ⟨L, b, hL, hsz, hLn, _, hblk, hnz, he⟩ := ptr_spec hs.heap hv hu' hn
              generalize hae : a.eval y = v at hv he
              cases hv with
              | ptr hlt hall =>
                refine ⟨.pointer (some ⟨b, i * hbk.sz + (off + o'), none⟩), fun w' _ => ?_, .ptr hlt (fun L' hL' => ?_)⟩
                · subst hft
                  simp [execOp, ho, hae, he, Instr.fieldAt, run_underlying hu, hfk, Instr.sureAddr, fieldPlace, hT.size hfi, hfz, addr_add, hfo, Nat.add_assoc]
                · rw [hL] at hL'
                  simp only [Option.some.injEq] at hL'
                  subst hL'
                  exact ⟨by omega, fun _ => ⟨b, hblk, hnz, by rw [hsz]⟩⟩
            · simp at h
          · simp at h
        · simp at h
    · simp at h
  · rename_i t y k ho
    split at h
    · rename_i o' ft hf
      obtain ⟨ti, fs, ht, hk, hfs⟩ := fieldOf_spec hf
      obtain ⟨fields, hu, hmap⟩ := hT.struct ht hk
      obtain ⟨f, hfk, hfo, hft⟩ := field_at hmap hfs
      split at h
      · rename_i cs fi hb hfi
        have hv := hs.ev y
        rw [hb] at hv
        generalize hae : a.eval y = v at hv
        cases hv with
        | agg hl =>
          obtain ⟨v, h1, h2⟩ := run_part (P := P) hT hfi hl h
          refine ⟨v, fun w' _ => ?_, h2⟩
          have := h1 w'
          subst hft; subst hfo
          simp [execOp, ho, hae, Instr.field, run_underlying hu, hfk, asAgg, this]
      · simp at h
    · simp at h
  · rename_i t y ho
    split at h
    · rename_i ti ht
      split at h
      · rename_i l sz rows i off hb
        rw [Bool.cond_eq_ite] at h
        split at h
        · rename_i hl
          split at h
          · rename_i row hrow
            have hv := hs.ev y
            rw [hb] at hv
            obtain ⟨b, o', _, ⟨vals, hvals⟩, he⟩ := pptr_spec hv (hs.live hl)
            obtain ⟨h1, h2, h3⟩ := hvals i row hrow
            obtain ⟨v, h4, h5⟩ := run_loadRow (P := P) hT ht h2 h3 h
            exact ⟨v, fun w' hw => by simp [execOp, ho, he, h4 w' hw], h5⟩
          · simp at h
        · simp at h
      · rename_i u n i off hb
        split at h
        · rename_i hbk hu
          rw [Bool.cond_eq_ite] at h
          split at h
          · rename_i hn
            rw [Nat.beq_eq] at hn
            split at h
            · rename_i row hrow
              have hv := hs.ev y
              rw [hb] at hv
              obtain ⟨L, b, hL, hsz, hLn, hblk, hbb, hnz, he⟩ := ptr_spec hs.heap hv hu hn
              unfold Blk at hblk
              rw [hbb] at hblk
              obtain ⟨cs, el, fz, _, _, _, _, vals, hvals⟩ := hblk.2 hnz
              obtain ⟨h1, h2, h3⟩ := hvals i row hrow
              obtain ⟨v, h4, h5⟩ := run_loadRow (P := P) hT ht h2 h3 h
              refine ⟨v, fun w' hw => ?_, h5⟩
              have := h4 w' hw
              rw [Nat.zero_add, hsz] at this
              simp [execOp, ho, he, this]
            · simp at h
          · simp at h
        · simp at h
      · simp at h
    · simp at h
  · rename_i src dst y ho
    split at h
    · rename_i k0 k n h1 h2 h3
      simp only [Option.some.injEq] at h
      subst h
      obtain ⟨t1, ht1, hk1⟩ := convK_spec h1
      obtain ⟨t2, ht2, hk2⟩ := convK_spec h2
      have hv := hs.ev y
      rw [h3] at hv
      generalize hae : a.eval y = v at hv
      cases hv
      exact ⟨_, fun w' _ => by simp [execOp, ho, hae, convert, run_underlying (hT.int ht1 hk1), run_underlying (hT.int ht2 hk2), Conv.intToInt], .int _ _⟩
    · simp at h
  · rename_i y t ho
    split at h
    · rename_i ti ht
      obtain ⟨v, h1, h2⟩ := len_sound (P := P) (a := a.eval y) o.type hT ht hs (hs.ev y) h
      exact ⟨v, fun w' _ => by simp [execOp, ho, resolve, invoke, builtin, h1 w'], h2⟩
    · simp at h
  · simp at h

end
end Go.Abs

namespace Go.Abs

def Own (C : Ctx) (b : Nat) : Prop := (∃ u L, C.loc u = some L ∧ L.blk = some b) ∨ (∃ l, 2 ≤ l ∧ C.lv l ∧ C.reg l b)

/-- The frame: memory that is not owned stays; what is owned behind it was owned or is new; region 0 is not grown, region 1 by what was owned or is new. -/
structure Fr (C C' : Ctx) (w w' : World) : Prop where
  size : w.heap.size ≤ w'.heap.size
  keep : ∀ b, b < w.heap.size → ¬ Own C b → w'.heap[b]? = w.heap[b]?
  own : ∀ b, Own C' b → Own C b ∨ w.heap.size ≤ b
  r0 : ∀ b, C'.reg 0 b → C.reg 0 b
  r1 : ∀ b, C'.reg 1 b → C.reg 1 b ∨ Own C b ∨ w.heap.size ≤ b
  os : w'.os = w.os
  out : w'.output = w.output
  low : ∀ u, u < 3 → ∀ L', C'.loc u = some L' → ∃ L, C.loc u = some L ∧ (L' = L ∨ L.n < L'.n)

theorem Fr.refl (C : Ctx) (w : World) : Fr C C w w := ⟨Nat.le_refl _, fun _ _ _ => rfl, fun _ h => .inl h, fun _ h => h, fun _ h => .inl h, rfl, rfl, fun _ _ L h => ⟨L, h, .inl rfl⟩⟩

theorem Fr.trans {C C1 C2 : Ctx} {w w1 w2 : World} (F : Fr C C1 w w1) (G : Fr C1 C2 w1 w2) : Fr C C2 w w2 where
  size := Nat.le_trans F.size G.size
  keep b hb ho := (G.keep b (Nat.lt_of_lt_of_le hb F.size) (fun h => (F.own b h).elim ho (fun h => by omega))).trans (F.keep b hb ho)
  own b h := by
    rcases G.own b h with h | h
    · exact F.own b h
    · exact .inr (Nat.le_trans F.size h)
  r0 b h := F.r0 b (G.r0 b h)
  r1 b h := by
    rcases G.r1 b h with h | h | h
    · exact F.r1 b h
    · rcases F.own b h with h | h
      · exact .inr (.inl h)
      · exact .inr (.inr h)
    · exact .inr (.inr (Nat.le_trans F.size h))
  os := G.os.trans F.os
  out := G.out.trans F.out
  low u hu L2 h2 := by
    obtain ⟨L1, h1, e1⟩ := G.low u hu L2 h2
    obtain ⟨L, h, e⟩ := F.low u hu L1 h1
    refine ⟨L, h, ?_⟩
    rcases e with rfl | e <;> rcases e1 with rfl | e1
    · exact .inl rfl
    · exact .inr e1
    · exact .inr e
    · exact .inr (by omega)

/-! ### A new row -/
def Ctx.set (C : Ctx) (u : Nat) (L : Loc) (nx : Nat) : Ctx := { C with loc := fun x => if x = u then some L else C.loc x, nx := nx }

/-- The cells of a row hold what the abstract rows say. -/
def RowsIn (C : Ctx) (w : World) (cs : Array Value) (sz : Nat) (rows : List (List V)) : Prop :=
  ∃ vals : Nat → List Value, ∀ i row, rows[i]? = some row → (vals i).length = sz ∧ (∀ j v, (vals i)[j]? = some v → cs[i * sz + j]? = some v) ∧ RepL C w (vals i) row

section
variable {P : Program} {T : List TI} {C : Ctx} {w : World} {h : List (Nat × HB)}

theorem ext_add (hs : HSt C w h) (o : Obj) (L : Loc) : Ext C (C.set C.nx L (C.nx + 1)) w (w.alloc o) where
  nx := Nat.le_succ _
  loc u L' hu h' := by
    simp only [Ctx.set] at h'
    rw [if_neg (by omega)] at h'
    exact ⟨L', h', .inl rfl⟩
  lv l _ h := h
  reg l b _ hl hb := ⟨hb, by
    have := hs.regs l b hl hb
    simp only [World.alloc, Array.getElem?_push]
    rw [if_neg (by omega)]⟩

theorem agree_alloc (w : World) (o : Obj) : Agree w (w.alloc o) :=
  ⟨by simp, fun b hb => by simp only [World.alloc, Array.getElem?_push]; rw [if_neg (by omega)], rfl, rfl⟩

theorem blk_lt {L : Loc} {rows : List (List V)} {b : Nat} (hb : Blk C w L rows) (h : L.blk = some b) : b < w.heap.size := by
  unfold Blk at hb
  rw [h] at hb
  rcases Nat.lt_or_ge b w.heap.size with h' | h'
  · exact h'
  · by_cases hz : L.sz = 0
    · obtain ⟨es, clock, ents, _, h1, _⟩ := hb.1 hz
      simp [Array.getElem?_eq_none h'] at h1
    · obtain ⟨cs, el, fz, h1, _⟩ := hb.2 hz
      simp [Array.getElem?_eq_none h'] at h1

theorem blk_of {L : Loc} {rows : List (List V)} {b : Nat} (hb : L.blk = some b) (hz : L.sz ≠ 0)
    (h : ∃ cs el fz, w.heap[b]? = some (.cells cs el fz) ∧ cs.size = L.cap * L.sz ∧ rows.length ≤ L.cap ∧ (∀ o, o < cs.size → ¬ (fz.1 ≤ o ∧ o < fz.2)) ∧ RepR C w b 0 L.sz rows) : Blk C w L rows := by
  unfold Blk; rw [hb]; exact ⟨fun h0 => absurd h0 hz, fun _ => h⟩
theorem of_blk {L : Loc} {rows : List (List V)} {b : Nat} (hb : L.blk = some b) (hz : L.sz ≠ 0) (h : Blk C w L rows) :
    ∃ cs el fz, w.heap[b]? = some (.cells cs el fz) ∧ cs.size = L.cap * L.sz ∧ rows.length ≤ L.cap ∧ (∀ o, o < cs.size → ¬ (fz.1 ≤ o ∧ o < fz.2)) ∧ RepR C w b 0 L.sz rows := by
  unfold Blk at h; rw [hb] at h; exact h.2 hz
theorem mblk_of {L : Loc} {rows : List (List V)} {b : Nat} (hb : L.blk = some b) (hz : L.sz = 0) (h : MapB C w b rows) : Blk C w L rows := by
  unfold Blk; rw [hb]; exact ⟨fun _ => h, fun h0 => absurd hz h0⟩
theorem of_mblk {L : Loc} {rows : List (List V)} {b : Nat} (hb : L.blk = some b) (hz : L.sz = 0) (h : Blk C w L rows) : MapB C w b rows := by
  unfold Blk at h; rw [hb] at h; exact h.1 hz
/-- What is done to a block's readings, done to the block. -/
theorem Blk.imp {C' : Ctx} {w' : World} {L : Loc} {rows rows' : List (List V)} (hl : rows'.length = rows.length) (hnil : rows = [] → rows' = [])
    (hm : ∀ b, L.blk = some b → w'.heap[b]? = w.heap[b]?) (hr : ∀ b, L.blk = some b → RepR C w b 0 L.sz rows → RepR C' w' b 0 L.sz rows')
    (he : ∀ ents, rows = [ents] → ∃ ents', rows' = [ents'] ∧ ∀ vs, RepL C w vs ents → RepL C' w' vs ents') (h : Blk C w L rows) : Blk C' w' L rows' := by
  cases hb : L.blk with
  | none => unfold Blk at h ⊢; rw [hb] at h ⊢; exact ⟨hnil h.1, h.2⟩
  | some b =>
    by_cases hz : L.sz = 0
    · obtain ⟨es, clock, ents, rfl, h2, h3⟩ := of_mblk hb hz h
      obtain ⟨ents', rfl, h4⟩ := he ents rfl
      exact mblk_of hb hz ⟨es, clock, ents', rfl, by rw [hm b hb]; exact h2, h4 _ h3⟩
    · obtain ⟨cs, el, fz, h1, h2, h3, h4, h5⟩ := of_blk hb hz h
      exact blk_of hb hz ⟨cs, el, fz, by rw [hm b hb]; exact h1, h2, by rw [hl]; exact h3, h4, hr b hb h5⟩

theorem RepR.mono {C' : Ctx} {w' : World} (E : Ext C C' w w') {b off sz : Nat} {rows : List (List V)} (hb : w'.heap[b]? = w.heap[b]?) (h : RepR C w b off sz rows) : RepR C' w' b off sz rows := by
  obtain ⟨vals, hv⟩ := h
  exact ⟨vals, fun i row hi => ⟨(hv i row hi).1, fun j v hj => by rw [cell_of_block hb]; exact (hv i row hi).2.1 j v hj, RepL.mono E (hv i row hi).2.2⟩⟩

theorem Blk.mono {C' : Ctx} {w' : World} (E : Ext C C' w w') {L : Loc} {rows : List (List V)} (hb : ∀ b, L.blk = some b → w'.heap[b]? = w.heap[b]?) (h : Blk C w L rows) : Blk C' w' L rows := by
  exact h.imp rfl id hb (fun b hn h5 => h5.mono E (hb b hn)) fun ents he => ⟨ents, he, fun vs h => RepL.mono E h⟩

theorem repR_of_in {cs : Array Value} {el : TypeId} {fz : Nat × Nat} {b sz : Nat} {rows : List (List V)} (hb : w.heap[b]? = some (.cells cs el fz)) (h : RowsIn C w cs sz rows) : RepR C w b 0 sz rows := by
  obtain ⟨vals, hv⟩ := h
  refine ⟨vals, fun i row hi => ⟨(hv i row hi).1, fun j v hj => ?_, (hv i row hi).2.2⟩⟩
  have := (hv i row hi).2.1 j v hj
  simp [World.cell?, hb, this]

theorem in_of_repR {cs : Array Value} {el : TypeId} {fz : Nat × Nat} {b sz : Nat} {rows : List (List V)} (hb : w.heap[b]? = some (.cells cs el fz)) (h : RepR C w b 0 sz rows) : RowsIn C w cs sz rows := by
  obtain ⟨vals, hv⟩ := h
  refine ⟨vals, fun i row hi => ⟨(hv i row hi).1, fun j v hj => ?_, (hv i row hi).2.2⟩⟩
  have := (hv i row hi).2.1 j v hj
  simpa [World.cell?, hb] using this

theorem RowsIn.mono {C' : Ctx} {w' : World} (E : Ext C C' w w') {cs : Array Value} {sz : Nat} {rows : List (List V)} (h : RowsIn C w cs sz rows) : RowsIn C' w' cs sz rows := by
  obtain ⟨vals, hv⟩ := h
  exact ⟨vals, fun i row hi => ⟨(hv i row hi).1, (hv i row hi).2.1, RepL.mono E (hv i row hi).2.2⟩⟩

/-- A NEW ROW. -/
theorem HSt.allocG (hs : HSt C w h) {o : Obj} {sz cap : Nat} {rows : List (List V)} (hblk : ∀ C', Ext C C' w (w.alloc o) → Blk C' (w.alloc o) ⟨some w.heap.size, sz, rows.length, cap⟩ rows) :
    HSt (C.set C.nx ⟨some w.heap.size, sz, rows.length, cap⟩ (C.nx + 1)) (w.alloc o) ((C.nx, ⟨sz, rows⟩) :: h) := by
  have E := ext_add hs o ⟨some w.heap.size, sz, rows.length, cap⟩
  have hold : ∀ b, b < w.heap.size → (w.alloc o).heap[b]? = w.heap[b]? := (agree_alloc w _).2
  have hnone : ∀ L, C.loc C.nx = some L → False := fun L hL => Nat.lt_irrefl _ (hs.lt _ L hL)
  refine ⟨fun u hu => ?_, fun u hb hu => ?_, fun u L hL => ?_, fun u u' L L' b h1 h2 h3 h4 => ?_, fun u L b l h1 h2 h3 h4 => ?_, fun l b h1 h2 => ?_, fun l hl => ?_, hs.rdis, hs.zero, Nat.lt_succ_of_lt hs.two⟩
  · simp only [hget, Ctx.set] at hu ⊢
    rw [Bool.cond_eq_ite] at hu
    split at hu
    · simp at hu
    · rename_i hne
      rw [Nat.beq_eq] at hne
      rw [if_neg hne]
      exact hs.dom u hu
  · simp only [hget] at hu
    rw [Bool.cond_eq_ite] at hu
    split at hu
    · rename_i he
      rw [Nat.beq_eq] at he
      simp only [Option.some.injEq] at hu
      subst hu; subst he
      refine ⟨⟨some w.heap.size, sz, rows.length, cap⟩, by simp [Ctx.set], rfl, rfl, ?_⟩
      exact hblk _ E
    · rename_i hne
      rw [Nat.beq_eq] at hne
      obtain ⟨L, h1, h2, h3, h4⟩ := hs.ent u hb hu
      exact ⟨L, by simp [Ctx.set, hne, h1], h2, h3, h4.mono E (fun b hb => hold b (blk_lt h4 hb))⟩
  · simp only [Ctx.set] at hL ⊢
    split at hL
    · omega
    · have := hs.lt u L hL; omega
  · have old : ∀ u L b, C.loc u = some L → L.blk = some b → b < w.heap.size := fun u L b h1 h2 => by
      cases hg : hget h u with
      | none => rw [hs.dom u hg] at h1; simp at h1
      | some hb => obtain ⟨L2, e1, _, _, e4⟩ := hs.ent u hb hg; rw [h1] at e1; simp at e1; subst e1; exact blk_lt e4 h2
    simp only [Ctx.set] at h1 h2
    split at h1 <;> split at h2
    · omega
    · simp only [Option.some.injEq] at h1; subst h1; simp at h3; have := old u' L' b h2 h4; omega
    · simp only [Option.some.injEq] at h2; subst h2; simp at h4; have := old u L b h1 h3; omega
    · exact hs.inj u u' L L' b h1 h2 h3 h4
  · simp only [Ctx.set] at h1 h3 h4
    split at h1
    · simp only [Option.some.injEq] at h1; subst h1; simp at h2
      have := hs.regs l b h3 h4
      omega
    · exact hs.own u L b l h1 h2 h3 h4
  · have := hs.regs l b h1 h2
    simp; omega
  · have := hs.lvs l hl
    simp only [Ctx.set]; omega

theorem HSt.alloc (hs : HSt C w h) {cs : Array Value} {el : TypeId} {sz cap : Nat} {rows : List (List V)} (hz : sz ≠ 0) (hcs : cs.size = cap * sz) (hle : rows.length ≤ cap) (hin : RowsIn C w cs sz rows) :
    HSt (C.set C.nx ⟨some w.heap.size, sz, rows.length, cap⟩ (C.nx + 1)) (w.alloc (.cells cs el)) ((C.nx, ⟨sz, rows⟩) :: h) :=
  hs.allocG fun C' E => by
    have hb : (w.alloc (.cells cs el)).heap[w.heap.size]? = some (.cells cs el (0, 0)) := by simp only [World.alloc, Array.getElem?_push_size]
    exact blk_of rfl hz ⟨cs, el, (0, 0), hb, hcs, hle, fun o _ => by simp, repR_of_in hb (hin.mono E)⟩

theorem fr_add (o : Obj) {L : Loc} (hb : L.blk = some w.heap.size) (h2 : 2 < C.nx) : Fr C (C.set C.nx L (C.nx + 1)) w (w.alloc o) where
  size := by simp
  keep b hb' _ := (agree_alloc w o).2 b hb'
  own b ho := by
    rcases ho with ⟨u, L', h1, h2⟩ | ⟨l, h1, h2, h3⟩
    · simp only [Ctx.set] at h1
      split at h1
      · simp only [Option.some.injEq] at h1; subst h1; rw [hb] at h2; simp at h2; exact .inr (by omega)
      · exact .inl (.inl ⟨u, L', h1, h2⟩)
    · exact .inl (.inr ⟨l, h1, h2, h3⟩)
  r0 b h := h
  r1 b h := .inl h
  os := rfl
  out := rfl
  low u hu L' h := by
    simp only [Ctx.set] at h
    rw [if_neg (by omega)] at h
    exact ⟨L', h, .inl rfl⟩

/-- A WRITTEN ROW: its block holds other cells, no more of them; all else stands. -/
theorem HSt.writeG (hs : HSt C w h) {w' : World} {u b : Nat} {L : Loc} {rows : List (List V)}
    (hL : C.loc u = some L) (hb : L.blk = some b) (hos : w'.os = w.os) (hout : w'.output = w.output) (hsz : w'.heap.size = w.heap.size) (hoth : ∀ c, c ≠ b → w'.heap[c]? = w.heap[c]?)
    (hn : L.n = rows.length ∨ L.n < rows.length) (hblk : ∀ C', Ext C C' w w' → Blk C' w' { L with n := rows.length } rows) :
    HSt (C.set u { L with n := rows.length } C.nx) w' ((u, ⟨L.sz, rows⟩) :: h) ∧ Ext C (C.set u { L with n := rows.length } C.nx) w w' ∧ Fr C (C.set u { L with n := rows.length } C.nx) w w' := by
  have E : Ext C (C.set u { L with n := rows.length } C.nx) w w' := by
    refine ⟨Nat.le_refl _, fun x L' hx h' => ?_, fun l _ h => h, fun l c _ hl hc => ⟨hc, hoth c (fun e => ?_)⟩⟩
    · simp only [Ctx.set] at h'
      split at h'
      · rename_i hxu
        subst hxu
        simp only [Option.some.injEq] at h'
        subst h'
        refine ⟨L, hL, ?_⟩
        rcases hn with hn | hn
        · exact .inl (by rw [← hn])
        · exact .inr hn
      · exact ⟨L', h', .inl rfl⟩
    · exact hs.own u L b l hL hb hl (by subst e; exact hc)
  have hloc : ∀ x M c, (C.set u { L with n := rows.length } C.nx).loc x = some M → M.blk = some c → ∃ M', C.loc x = some M' ∧ M'.blk = some c := fun x M c h1 h2 => by
    simp only [Ctx.set] at h1
    split at h1
    · rename_i hxu; subst hxu; simp only [Option.some.injEq] at h1; subst h1; exact ⟨L, hL, h2⟩
    · exact ⟨M, h1, h2⟩
  refine ⟨⟨fun x hx => ?_, fun x hbk hx => ?_, fun x M hM => ?_, fun x x' M M' c h1 h2 h3 h4 => ?_, fun x M c l h1 h2 h3 h4 => ?_, fun l c h1 h2 => ?_, hs.lvs, hs.rdis, hs.zero, hs.two⟩, E, ?_⟩
  · simp only [hget] at hx
    rw [Bool.cond_eq_ite] at hx
    split at hx
    · simp at hx
    · rename_i hne
      rw [Nat.beq_eq] at hne
      simp only [Ctx.set]
      rw [if_neg hne]
      exact hs.dom x hx
  · simp only [hget] at hx
    rw [Bool.cond_eq_ite] at hx
    split at hx
    · rename_i he
      rw [Nat.beq_eq] at he
      simp only [Option.some.injEq] at hx
      subst hx; subst he
      refine ⟨{ L with n := rows.length }, by simp [Ctx.set], rfl, rfl, ?_⟩
      exact hblk _ E
    · rename_i hne
      rw [Nat.beq_eq] at hne
      obtain ⟨M, h1, h2, h3, h4⟩ := hs.ent x hbk hx
      refine ⟨M, by simp [Ctx.set, hne, h1], h2, h3, h4.mono E (fun c hc => hoth c (fun e => hne ?_))⟩
      subst e
      exact hs.inj x u M L c h1 hL hc hb
  · simp only [Ctx.set] at hM ⊢
    split at hM
    · rename_i hxu; subst hxu; exact hs.lt _ L hL
    · exact hs.lt x M hM
  · obtain ⟨N, n1, n2⟩ := hloc x M c h1 h3
    obtain ⟨N', n3, n4⟩ := hloc x' M' c h2 h4
    exact hs.inj x x' N N' c n1 n3 n2 n4
  · obtain ⟨N, n1, n2⟩ := hloc x M c h1 h2
    exact hs.own x N c l n1 n2 h3 h4
  · rw [hsz]; exact hs.regs l c h1 h2
  · have ho : ∀ c, Own (C.set u { L with n := rows.length } C.nx) c → Own C c := fun c hc => by
      rcases hc with ⟨x, M, h1, h2⟩ | hc
      · obtain ⟨N, n1, n2⟩ := hloc x M c h1 h2
        exact .inl ⟨x, N, n1, n2⟩
      · exact .inr hc
    refine ⟨by omega, fun c _ hc => hoth c (fun e => hc (.inl ⟨u, L, hL, by rw [e]; exact hb⟩)), fun c hc => .inl (ho c hc), fun c hc => hc, fun c hc => .inl hc, hos, hout, fun x _ L' h' => ?_⟩
    simp only [Ctx.set] at h'
    split at h'
    · rename_i hxu
      subst hxu
      simp only [Option.some.injEq] at h'
      subst h'
      refine ⟨L, hL, ?_⟩
      rcases hn with hn | hn
      · exact .inl (by rw [← hn])
      · exact .inr hn
    · exact ⟨L', h', .inl rfl⟩

theorem HSt.write (hs : HSt C w h) {w' : World} {u b : Nat} {L : Loc} {cs : Array Value} {el : TypeId} {fz : Nat × Nat} {rows : List (List V)} (hz : L.sz ≠ 0)
    (hL : C.loc u = some L) (hb : L.blk = some b) (hos : w'.os = w.os) (hout : w'.output = w.output) (hsz : w'.heap.size = w.heap.size) (hoth : ∀ c, c ≠ b → w'.heap[c]? = w.heap[c]?)
    (hnew : w'.heap[b]? = some (.cells cs el fz)) (hcs : cs.size = L.cap * L.sz) (hfz : ∀ o, o < cs.size → ¬ (fz.1 ≤ o ∧ o < fz.2)) (hle : rows.length ≤ L.cap)
    (hn : L.n = rows.length ∨ L.n < rows.length) (hin : ∀ C' w', Ext C C' w w' → RowsIn C' w' cs L.sz rows) :
    HSt (C.set u { L with n := rows.length } C.nx) w' ((u, ⟨L.sz, rows⟩) :: h) ∧ Ext C (C.set u { L with n := rows.length } C.nx) w w' ∧ Fr C (C.set u { L with n := rows.length } C.nx) w w' :=
  hs.writeG hL hb hos hout hsz hoth hn fun C' E => blk_of hb hz ⟨cs, el, fz, hnew, hcs, hle, hfz, repR_of_in hnew (hin _ _ E)⟩

end
end Go.Abs

namespace Go.Abs

def Goal (C : Ctx) (w : World) (K : St → Prop) (Q : Exit → Act → World → Prop) : Prop :=
  ∀ C' w' a' s', StRep C' w' a' s' → Fr C C' w w' → K s' → Q .normal a' w'

def AOps (P : Program) (ops : Array Oper) (l : List Oper) (s : St) (K : St → Prop) : Prop :=
  ∀ C w a Q, StRep C w a s → Goal C w K Q → wpList P ops Q l a w

def gd (l : List Oper) (s : St) (g : Option (Nat × Bool)) : Option Bool :=
  match g with
  | none => some true
  | some (j, want) => match (l[j]?).bind (·.dst) with
    | some d => (match eget s.env d with
      | .bool b => some (b == want)
      | .tup [] => some false
      | _ => none)
    | none => none

section
variable {P : Program} {T : List TI} {C : Ctx} {w : World} {a : Act} {s : St} {ops : Array Oper}

theorem put_rep (hs : StRep C w a s) {d : Option Nat} {v : Value} {x : V} {s' : St} (hr : Rep C w v x) (hp : s.put d x = some s') : StRep C w (a.put d v) s' := by
  cases d with
  | none =>
    have : s.put none x = some s := by cases s; rfl
    rw [this] at hp
    simp at hp; subst hp; exact hs
  | some d =>
    have : s.put (some d) x = bif Nat.blt d s.n then some { s with env := (d, x) :: s.env } else none := by cases s; rfl
    rw [this] at hp
    rw [Bool.cond_eq_ite] at hp
    split at hp
    · rename_i hd
      rw [Nat.blt_eq] at hd
      simp only [Option.some.injEq] at hp
      subst hp
      refine ⟨hs.defers, by simp [Act.put, hs.size], hs.nx, fun i => ?_, hs.heap, hs.lv⟩
      simp only [Act.put, eget]
      rw [Bool.cond_eq_ite]
      by_cases hi : i = d
      · subst hi
        rw [if_pos (by simp)]
        have : i < a.tmps.size := by rw [hs.size]; exact hd
        simp [Array.getD, this]; exact hr
      · rw [if_neg (by simp [hi])]
        have := hs.env i
        simp only [Array.getD_eq_getD_getElem?] at this ⊢
        rw [Array.getElem?_setIfInBounds_ne (by omega)]
        exact this
    · simp at hp

theorem gd_spec (hs : StRep C w a s) {o : Oper} {b : Bool} (h : gd ops.toList s o.guard = some b) : Region.wanted o (yielded ops a.tmps) = b := by
  unfold gd at h
  unfold Region.wanted
  split at h
  · rename_i hg; rw [hg]; simpa using h
  · rename_i j want hg
    rw [hg]
    simp only
    split at h
    · rename_i d hd
      have hrep := hs.env d
      have hd' : (ops[j]?).bind (·.dst) = some d := by simpa using hd
      simp only [yielded, hd', Option.bind_some]
      split at h
      · rename_i b' hb
        rw [hb] at hrep
        generalize hv : a.tmps.getD d undef = v at hrep
        cases hrep
        have : a.tmps[d]? = some (.bool b') := by
          simp only [Array.getD_eq_getD_getElem?] at hv
          cases hq : a.tmps[d]? with
          | none => rw [hq] at hv; simp [undef] at hv
          | some q => rw [hq] at hv; simp at hv; rw [hv]
        rw [this]
        simp only [Option.some.injEq] at h
        rw [← h]
        cases b' <;> cases want <;> rfl
      · rename_i hb
        rw [hb] at hrep
        generalize hv : a.tmps.getD d undef = v at hrep
        cases hrep with
        | tup hl =>
          cases hl
          simp only [Option.some.injEq] at h
          subst h
          simp only [Array.getD_eq_getD_getElem?] at hv
          cases hq : a.tmps[d]? with
          | none => simp
          | some q => rw [hq] at hv; simp at hv; subst hv; simp
      · simp at h
    · simp at h

theorem goal_step {C' : Ctx} {w' : World} {K : St → Prop} {Q : Exit → Act → World → Prop} (F : Fr C C' w w') (g : Goal C w K Q) : Goal C' w' K Q :=
  fun C2 w2 a2 s2 h1 h3 h4 => g C2 w2 a2 s2 h1 (F.trans h3) h4

theorem aops_nil {K : St → Prop} (h : K s) : AOps P ops [] s K :=
  fun C w a _ hs g => g C w a s hs (Fr.refl _ _) h

/-- An operation that yields a value. -/
theorem aops_value {o : Oper} {r : List Oper} {K : St → Prop} (hg : gd ops.toList s o.guard = some true)
    (h : ∀ C w a, StRep C w a s → ∃ v w' C' s', (execOp a.eval o).run P w = .ok (.value v) w' ∧ StRep C' w' (a.put o.dst v) s' ∧ Fr C C' w w' ∧ AOps P ops r s' K) :
    AOps P ops (o :: r) s K := by
  intro C w a Q hs g
  obtain ⟨v, w', C', s', h1, h2, h4, h5⟩ := h C w a hs
  unfold wpList
  rw [if_pos (gd_spec hs hg)]
  refine .inl ?_
  unfold Oper.wp
  rw [h1]
  exact h5 C' w' _ Q h2 (goal_step h4 g)

theorem aops_skipv {o : Oper} {r : List Oper} {K : St → Prop} (hg : gd ops.toList s o.guard = some true)
    (h : ∀ C w a, StRep C w a s → ∃ w' C' s', (execOp a.eval o).run P w = .ok .skip w' ∧ StRep C' w' (a.put o.dst undef) s' ∧ Fr C C' w w' ∧ AOps P ops r s' K) :
    AOps P ops (o :: r) s K := by
  intro C w a Q hs g
  obtain ⟨w', C', s', h1, h2, h4, h5⟩ := h C w a hs
  unfold wpList
  rw [if_pos (gd_spec hs hg)]
  refine .inl ?_
  unfold Oper.wp
  rw [h1]
  exact h5 C' w' _ Q h2 (goal_step h4 g)

/-- An operation that only computes. -/
theorem aops_pure {o : Oper} {r : List Oper} {K : St → Prop} {x : V} {s' : St} (hT : TabOK P T) (hg : gd ops.toList s o.guard = some true) (hx : pstep T s o.op = some x) (hp : s.put o.dst x = some s')
    (h : AOps P ops r s' K) : AOps P ops (o :: r) s K :=
  aops_value hg fun C w a hs => by
    obtain ⟨v, h1, h2⟩ := pstep_sound hT hs hx
    exact ⟨v, w, C, s', h1 w (Agree.refl w), put_rep hs h2 hp, Fr.refl _ _, h⟩

/-- An operation whose guard says no. -/
theorem aops_idle {o : Oper} {r : List Oper} {K : St → Prop} {s' : St} (hg : gd ops.toList s o.guard = some false) (hp : s.put o.dst (.tup []) = some s')
    (h : AOps P ops r s' K) : AOps P ops (o :: r) s K := by
  intro C w a Q hs g
  unfold wpList
  rw [if_neg (by rw [gd_spec hs hg]; simp)]
  exact h C w _ _ (put_rep hs (.tup .nil) hp) g

theorem new_rep {hb : HB} (h : StRep C w a { s with heap := (s.nx, hb) :: s.heap, nx := s.nx + 1 }) : StRep C w a (s.new hb) := by cases s; exact h
theorem wr_rep {u : Nat} {hb : HB} (h : StRep C w a { s with heap := (u, hb) :: s.heap }) : StRep C w a (s.wr u hb) := by cases s; exact h

/-- A new row is made, its address (or a slice over it) yielded. -/
theorem aops_new {o : Oper} {r : List Oper} {K : St → Prop} {sz cap : Nat} {rows : List (List V)} {x : V} {s1 : St} (hz : sz ≠ 0) (hg : gd ops.toList s o.guard = some true)
    (hrun : ∀ C w a, StRep C w a s → ∃ v cs el, (execOp a.eval o).run P w = .ok (.value v) (w.alloc (.cells cs el)) ∧ cs.size = cap * sz ∧ rows.length ≤ cap ∧ RowsIn C w cs sz rows ∧
      (∀ C', (∀ L, C'.loc s.nx = some L → L = ⟨some w.heap.size, sz, rows.length, cap⟩) → s.nx < C'.nx → Rep C' (w.alloc (.cells cs el)) v x))
    (hp : (s.new ⟨sz, rows⟩).put o.dst x = some s1) (h : AOps P ops r s1 K) : AOps P ops (o :: r) s K :=
  aops_value hg fun C w a hs => by
    obtain ⟨v, cs, el, h1, h2, h3, h4, h5⟩ := hrun C w a hs
    have hh := hs.heap.alloc (el := el) hz h2 h3 h4
    have E := ext_add hs.heap (.cells cs el) ⟨some w.heap.size, sz, rows.length, cap⟩
    have F := fr_add (C := C) (w := w) (.cells cs el) (L := ⟨some w.heap.size, sz, rows.length, cap⟩) rfl hs.heap.two
    refine ⟨v, _, _, s1, h1, put_rep (s := s.new ⟨sz, rows⟩) (new_rep ⟨hs.defers, hs.size, by simp [Ctx.set, hs.nx], fun i => (hs.env i).mono E, by rw [← hs.nx]; exact hh, hs.lv⟩) (h5 _ ?_ ?_) hp, F, h⟩
    · intro L hL
      simp [Ctx.set, hs.nx] at hL
      exact hL.symm
    · simp [Ctx.set, hs.nx]

theorem rowsIn_one {cs : List Value} {row : List V} (h : RepL C w cs row) : RowsIn C w ⟨cs⟩ row.length [row] :=
  ⟨fun _ => cs, fun i r hi => by
    cases i with
    | zero => simp at hi; subst hi; exact ⟨h.length, fun j v hj => by simpa using hj, h⟩
    | succ i => simp at hi⟩

/-- A value of one cell, surely. -/
def oneV (s : St) : V → Bool
  | .int _ _ | .bool _ | .str _ | .nilsl | .nilp | .fn _ => true
  | .psl l _ _ | .pptr l _ _ _ _ => s.live l
  | .ptr u n _ _ => match hget s.heap u with | some hb => Nat.beq n hb.rows.length | none => false
  | .mp u => match hget s.heap u with | some hb => Nat.beq 1 hb.rows.length | none => false
  | _ => false
def cellsV (s : St) (x : V) : Option (List V) :=
  match x.force with
  | some (.agg cs) => some cs
  | some y => bif oneV s y then some [y] else none
  | none => none

theorem oneV_spec (hs : StRep C w a s) {v : Value} {x : V} (h : Rep C w v x) (ho : oneV s x = true) : v.cells = #[v] ∧ v.oneCell' = true := by
  cases h with
  | int | bool | str | psl0 | psl | pptr | nilsl | nilp | fn => exact ⟨rfl, rfl⟩
  | agg | tup | junk | hsl => simp [oneV] at ho
  | psld v h1 _ => exact absurd (hs.live ho) h1
  | pptrd v h1 _ => exact absurd (hs.live ho) h1
  | ptr hu hall =>
    simp only [oneV] at ho
    split at ho
    · rename_i hb hg
      rw [Nat.beq_eq] at ho
      obtain ⟨L, b, _, _, _, _, _, _, he⟩ := ptr_spec hs.heap (.ptr hu hall) hg ho
      rw [he]; exact ⟨rfl, rfl⟩
    · simp at ho
  | mp hu hall =>
    simp only [oneV] at ho
    split at ho
    · rename_i hb hg
      rw [Nat.beq_eq] at ho
      obtain ⟨L, b, _, _, _, _, _, he⟩ := mp_spec hs.heap (.mp hu hall) hg ho
      rw [he]; exact ⟨rfl, rfl⟩
    · simp at ho

theorem cellsV_spec (hs : StRep C w a s) {v : Value} {x : V} {cs : List V} (h : Rep C w v x) (hc : cellsV s x = some cs) : RepL C w v.cells.toList cs := by
  unfold cellsV at hc
  split at hc
  · rename_i cs' hf
    have e := force_eq _ _ hf
    subst e
    simp only [Option.some.injEq] at hc
    subst hc
    cases h with
    | agg hl => exact hl
  · rename_i y _ hf
    have e := force_eq _ _ hf
    subst e
    rw [Bool.cond_eq_ite] at hc
    split at hc
    · rename_i ho
      simp only [Option.some.injEq] at hc
      subst hc
      rw [(oneV_spec hs h ho).1]
      exact .cons h .nil
    · simp at hc
  · simp at hc

theorem rep_newptr {b sz cap : Nat} {w1 : World} {u : Nat} (hz : sz ≠ 0) (h1 : ∀ L, C.loc u = some L → L = ⟨some b, sz, 1, cap⟩) (h2 : u < C.nx) : Rep C w1 (.pointer (some ⟨b, 0, none⟩)) (.ptr u 1 0 0) :=
  .ptr h2 fun L hL => by
    have := h1 L hL
    subst this
    exact ⟨Nat.le_refl _, fun _ => ⟨b, rfl, hz, by simp⟩⟩

/-- A declared variable. -/
theorem aops_alloc {t : Nat} {ti : TI} {d : Option Nat} {ty : Nat} {pos : String} {af : Array Edge} {gu : Option (Nat × Bool)} {r : List Oper} {K : St → Prop} {s1 : St} (hT : TabOK P T)
    (hg : gd ops.toList s gu = some true) (ht : T[t]? = some ti) (hz : ti.zero.isEmpty = false) {sz : Nat} (hzl : ti.zero.length = sz)
    (hp : s.newP sz [ti.zero] d = some s1) (h : AOps P ops r s1 K) :
    AOps P ops (⟨d, .alloc t, ty, pos, af, gu⟩ :: r) s K :=
  aops_new (cap := 1) (rows := [ti.zero]) (sz := ti.zero.length) (by intro e; rw [List.length_eq_zero_iff] at e; simp [e] at hz) hg (fun C w a hs => by
    obtain ⟨z, hz1, hz2⟩ := hT.zero ht (by intro e; simp [e] at hz)
    have hl : z.cells.size = ti.zero.length := by rw [← hz2]; simp
    refine ⟨_, z.cells, t, by simp only [execOp, Instr.alloc, Sem.run_bind, hz1, Result.andThen_ok]; rfl, by omega, by simp, ?_, fun C' h1 h2 => rep_newptr (by intro e; rw [List.length_eq_zero_iff] at e; simp [e] at hz) h1 h2⟩
    have := rowsIn_one (C := C) (w := w) (repL_toV C w z.cells.toList)
    rwa [hz2] at this) (by rw [← newP_eq, hzl]; exact hp) h

/-- A value laid in a variable of its own. -/
theorem aops_box {t : Nat} {y : Operand} {cs : List V} {d : Option Nat} {ty : Nat} {pos : String} {af : Array Edge} {gu : Option (Nat × Bool)} {r : List Oper} {K : St → Prop} {s1 : St}
    (hg : gd ops.toList s gu = some true) (hc : cellsV s (ev s y) = some cs) (hnz : cs.length ≠ 0) {sz : Nat} (hzl : cs.length = sz)
    (hp : s.newP sz [cs] d = some s1) (h : AOps P ops r s1 K) :
    AOps P ops (⟨d, .box t y, ty, pos, af, gu⟩ :: r) s K :=
  aops_new (cap := 1) (rows := [cs]) (sz := cs.length) hnz hg (fun C w a hs => by
    have hr := cellsV_spec hs (hs.ev y) hc
    have hl := hr.length
    refine ⟨_, (a.eval y).cells, t, by simp only [execOp, Instr.box, newVar, newRow]; rfl, by simpa using hl, by simp, ?_, fun C' h1 h2 => rep_newptr hnz h1 h2⟩
    exact rowsIn_one hr) (by rw [← newP_eq, hzl]; exact hp) h

/-- Cells stored in a row, none of which is frozen. -/
theorem run_storeCells_fz (g o : Nat) (t : TypeId) (fz : Nat × Nat) : ∀ (vs : List Value) (i : Nat) (cur : Array Value) (w : World), w.heap[g]? = some (.cells cur t fz) → (∀ x, x < cur.size → ¬ (fz.1 ≤ x ∧ x < fz.2)) → o + i + vs.length ≤ cur.size → (∀ v ∈ vs, v.oneCell' = true) →
    (storeCells ⟨g, o, none⟩ vs i).run P w = .ok () (w.setRow g (cur.toList.take (o + i) ++ vs ++ cur.toList.drop (o + i + vs.length)).toArray)
  | [], i, cur, w, hg, _, _, _ => by
    simp only [storeCells, List.append_nil, List.length_nil, Nat.add_zero, List.take_append_drop, Array.toArray_toList]
    rw [setRow_self w g cur t fz hg]
    rfl
  | v :: rest, i, cur, w, hg, hfz, hl, h1 => by
    have hi : o + i < cur.size := by simp at hl; omega
    have hadd : (⟨g, o, none⟩ : Addr).add i = ⟨g, o + i, none⟩ := addr_add _ _ _
    have hcell : w.cell? ⟨g, o + i, none⟩ = some cur[o + i] := by simp [World.cell?, hg, hi]
    have hfro : w.frozen? ⟨g, o + i, none⟩ = false := by
      have := hfz (o + i) hi
      obtain ⟨lo, hi'⟩ := fz
      simp only [World.frozen?, hg, Bool.and_eq_false_iff, decide_eq_false_iff_not]
      simp only at this
      omega
    have hst : (store ((⟨g, o, none⟩ : Addr).add i) v).run P w = .ok () (w.setRow g (cur.setIfInBounds (o + i) v)) := by
      rw [hadd, run_store P w _ v _ (h1 v (by simp)), hcell]
      simp [hfro, setCell_eq_setRow w g (o + i) cur t fz v hg]
    have ih := run_storeCells_fz g o t fz rest (i + 1) (cur.setIfInBounds (o + i) v) (w.setRow g (cur.setIfInBounds (o + i) v)) (setRow_heap w g cur _ t _ hg) (by simpa using hfz) (by simp at hl ⊢; omega) (fun x hx => h1 x (by simp [hx]))
    simp only [storeCells, Sem.run_bind, hst, Result.andThen_ok, ih, setRow_setRow]
    congr 3
    have e := list_seg_step cur.toList (o + i) v rest (by simp at hl ⊢; omega)
    simpa [Array.toList_setIfInBounds, Nat.add_assoc] using e

theorem splice_get {α : Type} (l vs : List α) (o : Nat) (h : o + vs.length ≤ l.length) (j : Nat) :
    (l.take o ++ vs ++ l.drop (o + vs.length))[j]? = if o ≤ j ∧ j < o + vs.length then vs[j - o]? else l[j]? := by
  by_cases h1 : j < o
  · rw [if_neg (by omega), List.append_assoc, List.getElem?_append_left (by simp; omega), List.getElem?_take, if_pos h1]
  · by_cases h2 : j < o + vs.length
    · rw [if_pos ⟨by omega, h2⟩, List.append_assoc, List.getElem?_append_right (by simp; omega), List.getElem?_append_left (by simp; omega)]
      congr 1
      simp; omega
    · rw [if_neg (by omega), List.getElem?_append_right (by simp; omega), List.getElem?_drop]
      congr 1
      simp; omega

/-- The rows of a row of cells behind a store within row i. -/
theorem rowsIn_store {cs : Array Value} {sz i off cap : Nat} {rows : List (List V)} {row ys : List V} {vs : List Value} (hcs : cs.size = cap * sz) (hle : rows.length ≤ cap) (hin : RowsIn C w cs sz rows) (hrow : rows[i]? = some row)
    (hv : RepL C w vs ys) (hoff : off + ys.length ≤ row.length) :
    RowsIn C w (cs.toList.take (i * sz + off) ++ vs ++ cs.toList.drop (i * sz + off + vs.length)).toArray sz (rows.set i (row.take off ++ ys ++ row.drop (off + ys.length))) ∧
    i * sz + off + vs.length ≤ cs.size := by
  obtain ⟨vals, hall⟩ := hin
  have hvl := hv.length
  obtain ⟨hi1, hi2, hi3⟩ := hall i row hrow
  have hrl := hi3.length
  have hilt : i < rows.length := by
    rcases Nat.lt_or_ge i rows.length with h | h
    · exact h
    · simp [List.getElem?_eq_none h] at hrow
  have hbound : i * sz + sz ≤ cs.size := by
    rw [hcs, ← Nat.succ_mul]; exact Nat.mul_le_mul_right _ (by omega)
  have hb2 : i * sz + off + vs.length ≤ cs.size := by omega
  refine ⟨⟨fun k => if k = i then (vals i).take off ++ vs ++ (vals i).drop (off + vs.length) else vals k, fun k r hk => ?_⟩, hb2⟩
  rw [List.getElem?_set] at hk
  by_cases hki : i = k
  · subst hki
    rw [if_pos rfl, if_pos hilt] at hk
    simp only [Option.some.injEq] at hk
    subst hk
    simp only [if_pos]
    refine ⟨by simp; omega, fun j v hj => ?_, ?_⟩
    · rw [splice_get _ _ _ (by omega)] at hj
      rw [List.getElem?_toArray, splice_get _ _ _ (by simpa using hb2)]
      split at hj
      · rename_i h; rw [if_pos (by omega)]; rw [← hj]; congr 1; omega
      · rename_i h; rw [if_neg (by omega)]; have := hi2 j v hj; simpa using this
    · have := ((hi3.take off).append hv).append (hi3.drop (off + ys.length))
      rwa [← hvl] at this ⊢
  · rw [if_neg hki] at hk
    have hk' : ¬ k = i := fun h => hki h.symm
    simp only [if_neg hk']
    obtain ⟨h1, h2, h3⟩ := hall k r hk
    refine ⟨h1, fun j v hj => ?_, h3⟩
    rw [List.getElem?_toArray, splice_get _ _ _ (by simpa using hb2)]
    have hjl : j < sz := by
      rcases Nat.lt_or_ge j (vals k).length with h | h
      · omega
      · simp [List.getElem?_eq_none h] at hj
    have hne : ¬ (i * sz + off ≤ k * sz + j ∧ k * sz + j < i * sz + off + vs.length) := by
      rintro ⟨g1, g2⟩
      rcases Nat.lt_or_gt_of_ne hk' with h | h
      · have : (k + 1) * sz ≤ i * sz := Nat.mul_le_mul_right _ h
        rw [Nat.succ_mul] at this; omega
      · have : (i + 1) * sz ≤ k * sz := Nat.mul_le_mul_right _ h
        rw [Nat.succ_mul] at this; omega
    rw [if_neg hne]
    have := h2 j v hj
    simpa using this

theorem setRow_other (w : World) (g c : Nat) (cs : Array Value) (h : c ≠ g) : (w.setRow g cs).heap[c]? = w.heap[c]? := by
  simp only [World.setRow, Array.getElem?_modify]
  rw [if_neg (fun e => h e.symm)]

theorem setRow_size (w : World) (g : Nat) (cs : Array Value) : (w.setRow g cs).heap.size = w.heap.size := by
  simp [World.setRow]

theorem all_one (hs : StRep C w a s) : ∀ {vs : List Value} {ys : List V}, RepL C w vs ys → ys.all (oneV s) = true → ∀ v ∈ vs, v.oneCell' = true
  | _, _, .nil, _, v, hv => by simp at hv
  | _, _, .cons h t, ha, v, hv => by
    simp only [List.all_cons, Bool.and_eq_true] at ha
    rcases List.mem_cons.1 hv with rfl | hv
    · exact (oneV_spec hs h ha.1).2
    · exact all_one hs t ha.2 v hv

theorem set_same (C : Ctx) {u : Nat} {L : Loc} {n : Nat} (hL : C.loc u = some L) (hn : L.n = n) : C.set u { L with n := n } C.nx = C := by
  subst hn
  have : (fun x => if x = u then some { L with n := L.n } else C.loc x) = C.loc := by
    funext x
    split
    · rename_i h; rw [h, hL]
    · rfl
  cases C
  simp only [Ctx.set] at this ⊢
  rw [this]

/-- A store into a row of the call's own. -/
theorem aops_store {t : Nat} {y z : Operand} {ti : TI} {u n i off : Nat} {hb : HB} {row cs : List V} {ty : Nat} {pos : String} {af : Array Edge} {gu : Option (Nat × Bool)} {r : List Oper} {K : St → Prop} (hT : TabOK P T)
    (hg : gd ops.toList s gu = some true) (ht : T[t]? = some ti) (hy : ev s y = .ptr u n i off) (hu : hget s.heap u = some hb) (hn : n = hb.rows.length) (hrow : hb.rows[i]? = some row)
    (hc : cellsV s (ev s z) = some cs) (hone : cs.all (oneV s) = true) (hsz : ti.size = cs.length) (hoff : off + cs.length ≤ row.length)
    (h : AOps P ops r (s.wr u ⟨hb.sz, hb.rows.set i (row.take off ++ cs ++ row.drop (off + cs.length))⟩) K) :
    AOps P ops (⟨none, .store t y z, ty, pos, af, gu⟩ :: r) s K :=
  aops_skipv hg fun C w a hs => by
    have hv := hs.ev y
    rw [hy] at hv
    obtain ⟨L, b, hL, hLsz, hLn, hblk, hbb, hnz, he⟩ := ptr_spec hs.heap hv hu hn
    obtain ⟨cells, el, fz, hheap, hcs, hle, hfz, hrep⟩ := of_blk hbb hnz hblk
    have hz := cellsV_spec hs (hs.ev z) hc
    have hzl := hz.length
    have hin := in_of_repR hheap hrep
    obtain ⟨hin2, hbd⟩ := rowsIn_store hcs hle hin hrow hz hoff
    have hrun := run_storeCells_fz (P := P) b (i * hb.sz + off) el fz (a.eval z).cells.toList 0 cells w hheap hfz (by rw [hLsz] at hbd; simpa using hbd) (all_one hs hz hone)
    have hw := HSt.write hs.heap hnz (w' := w.setRow b _) (rows := hb.rows.set i (row.take off ++ cs ++ row.drop (off + cs.length))) hL hbb rfl rfl (setRow_size w b (cells.toList.take (i * L.sz + off) ++ (a.eval z).cells.toList ++ cells.toList.drop (i * L.sz + off + (a.eval z).cells.toList.length)).toArray) (fun c hc => setRow_other w b c _ hc) (setRow_heap w b cells _ el fz hheap)
      (by simp at hbd ⊢; omega) (by
        have : ((cells.toList.take (i * L.sz + off) ++ (a.eval z).cells.toList ++ cells.toList.drop (i * L.sz + off + (a.eval z).cells.toList.length)).toArray).size = cells.size := by
          simp at hbd ⊢; omega
        rw [this]; exact hfz) (by simpa using hle) (.inl (by simp [hLn])) (fun C' w' E => hin2.mono E)
    have hset := set_same C (n := (hb.rows.set i (row.take off ++ cs ++ row.drop (off + cs.length))).length) hL (by simp [hLn])
    rw [hset, hLsz] at hw
    obtain ⟨w1, w2, w3⟩ := hw
    refine ⟨_, C, s.wr u ⟨hb.sz, hb.rows.set i (row.take off ++ cs ++ row.drop (off + cs.length))⟩, ?_, wr_rep ⟨hs.defers, hs.size, hs.nx, fun i => (hs.env i).mono w2, w1, hs.lv⟩, w3, h⟩
    have e : (a.eval z).cells.size = ti.size := by rw [hsz, ← hzl]; simp
    simp only [Nat.add_zero] at hrun
    simp [execOp, he, Instr.storeAt, Instr.sureAddr, storeVar, hT.size ht, e, hrun]

def St.norm : St → Option St
  | ⟨env, heap, nx, n, lv⟩ => some ⟨env, heap, nx, n, lv⟩
theorem norm_eq (s : St) : s.norm = some s := by cases s; rfl

/-- Cells laid over a row's, the row written out. -/
def putAt : List V → Nat → List V → Option (List V)
  | r, 0, [] => some r
  | _ :: r, 0, y :: ys => match putAt r 0 ys with | some t => some (y :: t) | none => none
  | x :: r, o + 1, ys => match putAt r o ys with | some t => some (x :: t) | none => none
  | [], _, _ => none
theorem putAt_spec : ∀ {row : List V} {off : Nat} {cs l : List V}, putAt row off cs = some l → l = row.take off ++ cs ++ row.drop (off + cs.length) ∧ off + cs.length ≤ row.length
  | row, 0, [], l, h => by cases row <;> simp [putAt] at h <;> simp [h]
  | x :: r, 0, y :: ys, l, h => by
    simp only [putAt] at h
    split at h
    · rename_i t ht
      obtain ⟨h1, h2⟩ := putAt_spec ht
      simp only [Option.some.injEq] at h
      subst h; subst h1
      simp only [List.take_zero, List.nil_append, Nat.zero_add, List.length_cons, List.cons_append, List.drop_succ_cons, true_and]
      omega
    · simp at h
  | x :: r, o + 1, ys, l, h => by
    have h' : (match putAt r o ys with | some t => some (x :: t) | none => none) = some l := by cases ys <;> simpa [putAt] using h
    split at h'
    · rename_i t ht
      obtain ⟨h1, h2⟩ := putAt_spec ht
      simp only [Option.some.injEq] at h'
      subst h'; subst h1
      have e : o + 1 + ys.length = (o + ys.length) + 1 := by omega
      refine ⟨by rw [e]; simp, by simp; omega⟩
    · simp at h'
  | [], 0, y :: ys, l, h => by simp [putAt] at h
  | [], o + 1, [], l, h => by simp [putAt] at h
  | [], o + 1, y :: ys, l, h => by simp [putAt] at h
/-- The same; a whole row at once. -/
def putRow (row : List V) (off : Nat) (cs : List V) : Option (List V) := bif Nat.beq off 0 && Nat.beq cs.length row.length then some cs else putAt row off cs
theorem putRow_spec {row : List V} {off : Nat} {cs l : List V} (h : putRow row off cs = some l) : l = row.take off ++ cs ++ row.drop (off + cs.length) ∧ off + cs.length ≤ row.length := by
  unfold putRow at h
  rw [Bool.cond_eq_ite] at h
  split at h
  · rename_i hc
    simp only [Bool.and_eq_true, Nat.beq_eq] at hc
    simp only [Option.some.injEq] at h
    subst h
    rw [hc.1, Nat.zero_add, hc.2]
    simp
  · exact putAt_spec h
/-- One row of rows set, the rows ahead of it written out. -/
def setF : List (List V) → Nat → List V → Option (List (List V))
  | _ :: r, 0, x => some (x :: r)
  | y :: r, i + 1, x => match setF r i x with | some t => some (y :: t) | none => none
  | [], _, _ => none
theorem setF_spec : ∀ {rows : List (List V)} {i : Nat} {x : List V} {l : List (List V)}, setF rows i x = some l → l = rows.set i x
  | y :: r, 0, x, l, h => by simp [setF] at h; simp [h]
  | y :: r, i + 1, x, l, h => by
    simp only [setF] at h
    split at h
    · rename_i t ht
      have := setF_spec ht
      simp only [Option.some.injEq] at h
      subst h; subst this; rfl
    · simp at h
  | [], i, x, l, h => by simp [setF] at h

/-- The machine that 'sx' runs: what needs no proof of its own. -/
def hstep (T : List TI) (s : St) (o : Oper) : Option St :=
  match o.op with
  | .alloc t => match T[t]? with
    | some ⟨_, size, _, zero, _⟩ => bif zero.isEmpty || !Nat.beq zero.length size then none else s.newP size [zero] o.dst
    | none => none
  | .box t y => match T[t]?, cellsV s (ev s y) with
    | some ⟨_, size, _, _, _⟩, some cs => bif Nat.beq cs.length size && !Nat.beq size 0 then s.newP size [cs] o.dst else none
    | _, _ => none
  | .store t y z => match o.dst, T[t]?, ev s y with
    | none, some ti, .ptr u n i off => (match hget s.heap u with
      | some ⟨sz, rows⟩ => (match rows[i]?, cellsV s (ev s z) with
        | some row, some cs => bif Nat.beq n rows.length && (cs.all (oneV s) && Nat.beq ti.size cs.length) then
            (match putRow row off cs with
              | some row' => (match setF rows i row' with | some rows' => (s.wr u ⟨sz, rows'⟩).norm | none => none)
              | none => none) else none
        | _, _ => none)
      | none => none)
    | _, _, _ => none
  | _ => none

def xstep (T : List TI) (l : List Oper) (s : St) (o : Oper) : Option St :=
  match gd l s o.guard with
  | some true => (match pstep T s o.op with
    | some v => s.put o.dst v
    | none => hstep T s o)
  | some false => s.put o.dst (.tup [])
  | none => none

/-- ONE OPERATION, BY COMPUTATION: 'refine sx hT rfl ?_'. -/
theorem sx {o : Oper} {r : List Oper} {K : St → Prop} {s' : St} (hT : TabOK P T) (hx : xstep T ops.toList s o = some s') (h : AOps P ops r s' K) : AOps P ops (o :: r) s K := by
  unfold xstep at hx
  split at hx
  · rename_i hg
    split at hx
    · rename_i v hv
      exact aops_pure hT hg hv hx h
    · unfold hstep at hx
      obtain ⟨d, op, ty, pos, af, gu⟩ := o
      simp only at hx hg
      split at hx
      · split at hx
        · rename_i kd size bts zero ag ht
          rw [Bool.cond_eq_ite] at hx
          split at hx
          · simp at hx
          · rename_i hz
            simp only [Bool.or_eq_true, Bool.not_eq_true', not_or, Bool.not_eq_true, Bool.not_eq_false, Nat.beq_eq] at hz
            exact aops_alloc hT hg ht hz.1 hz.2 hx h
        · simp at hx
      · split at hx
        · rename_i kd size bts zero ag cs ht hc
          rw [Bool.cond_eq_ite] at hx
          split at hx
          · rename_i hz
            simp only [Bool.and_eq_true, Bool.not_eq_true', Nat.beq_eq] at hz
            exact aops_box hg hc (by intro e; rw [hz.1] at e; have := hz.2; simp [e] at this) hz.1 hx h
          · simp at hx
        · simp at hx
      · split at hx
        · rename_i t y z _ _ _ ti u n i off ht hy _
          split at hx
          · rename_i sz rows hu
            split at hx
            · rename_i row cs hrow hc
              rw [Bool.cond_eq_ite] at hx
              split at hx
              · rename_i hall
                simp only [Bool.and_eq_true, Nat.beq_eq] at hall
                split at hx
                · rename_i row' hrow'
                  split at hx
                  · rename_i rows' hrows'
                    rw [norm_eq] at hx
                    simp only [Option.some.injEq] at hx
                    subst hx
                    obtain ⟨e1, e2⟩ := putRow_spec hrow'
                    have e3 := setF_spec hrows'
                    subst e1; subst e3
                    exact aops_store hT hg ht hy hu hall.1 hrow hc hall.2.1 hall.2.2 e2 h
                  · simp at hx
                · simp at hx
              · simp at hx
            · simp at hx
          · simp at hx
        · simp at hx
      · simp at hx
  · rename_i hg
    exact aops_idle hg hx h
  · simp at hx

end
end Go.Abs

namespace Go.Abs

mutual
/-- The regions' names changed; what points into the call's own memory forgotten. -/
def V.rl (f : Nat → Nat) : V → V
  | .agg cs => .agg (V.rlL f cs)
  | .tup cs => .tup (V.rlL f cs)
  | .psl l sz rows => .psl (f l) sz (V.rlR f rows)
  | .pptr l sz rows i off => .pptr (f l) sz (V.rlR f rows) i off
  | .hsl _ _ _ => .junk
  | .ptr _ _ _ _ => .junk
  | .mp _ => .junk
  | .int k n => .int k n
  | .bool b => .bool b
  | .str s => .str s
  | .nilsl => .nilsl
  | .nilp => .nilp
  | .fn g => .fn g
  | .junk => .junk
def V.rlL (f : Nat → Nat) : List V → List V
  | [] => []
  | x :: xs => V.rl f x :: V.rlL f xs
def V.rlR (f : Nat → Nat) : List (List V) → List (List V)
  | [] => []
  | x :: xs => V.rlL f x :: V.rlR f xs
end

theorem rlL_eq (f : Nat → Nat) : ∀ l : List V, V.rlL f l = l.map (V.rl f)
  | [] => rfl
  | x :: xs => by simp [V.rlL, rlL_eq f xs]
theorem rlR_eq (f : Nat → Nat) : ∀ l : List (List V), V.rlR f l = l.map (List.map (V.rl f))
  | [] => rfl
  | x :: xs => by simp [V.rlR, rlR_eq f xs, rlL_eq]

structure Rl (f : Nat → Nat) (C C' : Ctx) (w w' : World) : Prop where
  lt : ∀ l, l < C.nx → f l < C'.nx
  lv : ∀ l, l < C.nx → C'.lv (f l) → C.lv l
  reg : ∀ l b, l < C.nx → C'.lv (f l) → C.reg l b → C'.reg (f l) b ∧ w'.heap[b]? = w.heap[b]?

theorem rlR_get (f : Nat → Nat) (rows : List (List V)) (i : Nat) (row : List V) (h : (V.rlR f rows)[i]? = some row) : ∃ r, rows[i]? = some r ∧ row = V.rlL f r := by
  rw [rlR_eq, List.getElem?_map] at h
  cases hr : rows[i]? with
  | none => simp [hr] at h
  | some r => simp [hr] at h; exact ⟨r, rfl, by rw [rlL_eq]; exact h.symm⟩

mutual
theorem Rep.rl {f : Nat → Nat} {C C' : Ctx} {w w' : World} (E : Rl f C C' w w') : ∀ {v : Value} {x : V}, Rep C w v x → Rep C' w' v (x.rl f)
  | _, _, .int k n => .int k n
  | _, _, .bool b => .bool b
  | _, _, .str s => .str s
  | _, _, .agg h => .agg (RepL.rl E h)
  | _, _, .tup h => .tup (RepL.rl E h)
  | _, _, .psl0 a c l s => .psl0 a c (f l) s
  | _, _, .psl (l := l) (b := b) vals hl hn hb hlen hcap hc hr => by
    by_cases h : C'.lv (f l)
    · have e := E.reg l b hn h hb
      refine .psl vals h (E.lt l hn) e.1 (by rw [rlR_eq]; simpa using hlen) hcap (fun i row hi => ?_) (fun i row hi => ?_)
      · obtain ⟨r, h1, _⟩ := rlR_get f _ i row hi
        exact ⟨(hc i r h1).1, fun j v hj => by rw [cell_of_block e.2]; exact (hc i r h1).2 j v hj⟩
      · obtain ⟨r, h1, h2⟩ := rlR_get f _ i row hi
        rw [h2]
        exact RepL.rl E (hr i r h1)
    · exact .psld _ h (E.lt l hn)
  | _, _, .psld (l := l) v hl hn => .psld v (fun h => hl (E.lv l hn h)) (E.lt l hn)
  | _, _, .hsl _ _ => .junk _
  | _, _, .nilsl => .nilsl
  | _, _, .ptr _ _ => .junk _
  | _, _, .mp _ _ => .junk _
  | _, _, .pptr (l := l) (b := b) vals hl hn hb hc hr => by
    by_cases h : C'.lv (f l)
    · have e := E.reg l b hn h hb
      refine .pptr vals h (E.lt l hn) e.1 (fun i row hi => ?_) (fun i row hi => ?_)
      · obtain ⟨r, h1, _⟩ := rlR_get f _ i row hi
        exact ⟨(hc i r h1).1, fun j v hj => by rw [cell_of_block e.2]; exact (hc i r h1).2 j v hj⟩
      · obtain ⟨r, h1, h2⟩ := rlR_get f _ i row hi
        rw [h2]
        exact RepL.rl E (hr i r h1)
    · exact .pptrd _ h (E.lt l hn)
  | _, _, .pptrd (l := l) v hl hn => .pptrd v (fun h => hl (E.lv l hn h)) (E.lt l hn)
  | _, _, .nilp => .nilp
  | _, _, .fn g => .fn g
  | _, _, .junk v => .junk v
theorem RepL.rl {f : Nat → Nat} {C C' : Ctx} {w w' : World} (E : Rl f C C' w w') : ∀ {vs : List Value} {xs : List V}, RepL C w vs xs → RepL C' w' vs (V.rlL f xs)
  | _, _, .nil => .nil
  | _, _, .cons h t => .cons (Rep.rl E h) (RepL.rl E t)
end

/-! ### Code -/
def Post (C : Ctx) (w : World) (K : Exit → St → Prop) : Exit → Act → World → Prop :=
  fun e a' w' => ∃ C' s', StRep C' w' a' s' ∧ Fr C C' w w' ∧ K e s'

def AT (P : Program) (c : Code) (s : St) (K : Exit → St → Prop) : Prop := ∀ C w a, StRep C w a s → c.wp P (Post C w K) a w

def thenK (N : St → Prop) (K : Exit → St → Prop) : Exit → St → Prop
  | .normal, s => N s
  | e, s => K e s
def blockK (id : Nat) (K : Exit → St → Prop) : Exit → St → Prop
  | .exit i, s => if i = id then K .normal s else K (.exit i) s
  | e, s => K e s

/-- A value that is the same under no others than the first numbers: nothing behind n. -/
def cut2 (l : Nat) : Nat := bif Nat.ble l 1 then l else 2
def Ok (n : Nat) (x : V) : Prop :=
  match x with
  | .hsl u _ _ => u < n
  | .ptr u _ _ _ => u < n
  | .mp u => u < n
  | x => x.rl cut2 = x
def EnvLe (s : St) (n : Nat) : List (Nat × V) → Prop
  | [] => True
  | p :: r => (eget s.env p.1 = p.2 ∧ Ok n p.2) ∧ EnvLe s n r
def RowOk (n : Nat) : List V → Prop
  | [] => True
  | x :: r => Ok n x ∧ RowOk n r
def HeapLe (s : St) (n : Nat) : List (Nat × HB) → Prop
  | [] => True
  | p :: r => (hget s.heap p.1 = some p.2 ∧ p.1 < n ∧ ∀ row ∈ p.2.rows, RowOk n row) ∧ HeapLe s n r
/-- A state tells less than another: fewer slots, fewer rows, numbers given back. -/
structure Down (s s' : St) : Prop where
  env : EnvLe s s'.nx s'.env
  heap : HeapLe s s'.nx s'.heap
  nx : s'.nx ≤ s.nx
  two : 2 < s'.nx
  n : s'.n = s.n
  lv : ∀ l ∈ s'.lv, l ∈ s.lv ∧ l < s'.nx

section
variable {P : Program} {s : St} {K : Exit → St → Prop}

theorem envLe_get {n : Nat} : ∀ {l : List (Nat × V)}, EnvLe s n l → ∀ i, eget l i = .junk ∨ (eget l i = eget s.env i ∧ Ok n (eget l i))
  | [], _, i => .inl rfl
  | p :: r, h, i => by
    simp only [eget]
    rw [Bool.cond_eq_ite]
    split
    · rename_i hi
      rw [Nat.beq_eq] at hi
      subst hi
      exact .inr ⟨h.1.1.symm, h.1.2⟩
    · exact envLe_get h.2 i

theorem heapLe_get {n : Nat} : ∀ {l : List (Nat × HB)}, HeapLe s n l → ∀ u hb, hget l u = some hb → hget s.heap u = some hb ∧ u < n ∧ ∀ row ∈ hb.rows, RowOk n row
  | [], _, u, hb, h => by simp [hget] at h
  | p :: r, hl, u, hb, h => by
    simp only [hget] at h
    rw [Bool.cond_eq_ite] at h
    split at h
    · rename_i hi
      rw [Nat.beq_eq] at hi
      subst hi
      simp only [Option.some.injEq] at h
      subst h
      exact hl.1
    · exact heapLe_get hl.2 u hb h

def Ctx.cut (C : Ctx) (s' : St) : Ctx :=
  { reg := C.reg, lv := fun l => C.lv l ∧ l < s'.nx, loc := fun u => if (hget s'.heap u).isSome then C.loc u else none, nx := s'.nx }

theorem ok_rep {C : Ctx} {w : World} {s' : St} (hs : HSt C w s.heap) (h2 : 2 < s'.nx) (hnx : s'.nx ≤ C.nx) {v : Value} {x : V} (h : Rep C w v x) (ho : Ok s'.nx x) : Rep (C.cut s') w v x := by
  have key : x.rl cut2 = x → Rep (C.cut s') w v x := fun e => by
    rw [← e]
    have hc : ∀ l, (l ≤ 1 ∧ cut2 l = l) ∨ cut2 l = 2 := fun l => by
      unfold cut2
      rw [Bool.cond_eq_ite]
      split
      · rename_i h; rw [Nat.ble_eq] at h; exact .inl ⟨h, rfl⟩
      · exact .inr rfl
    refine Rep.rl (C := C) ⟨fun l _ => ?_, fun l _ h => ?_, fun l b _ h hb => ⟨?_, rfl⟩⟩ h
    · show cut2 l < s'.nx
      rcases hc l with ⟨h, e⟩ | e <;> omega
    · rcases hc l with ⟨_, e⟩ | e
      · rw [e] at h; exact h.1
      · rw [e] at h; exact absurd h.1 hs.zero.2.2
    · rcases hc l with ⟨_, e⟩ | e
      · rw [e]; exact hb
      · rw [e] at h; exact absurd h.1 hs.zero.2.2
  unfold Ok at ho
  split at ho
  · cases h with
    | hsl hu hall =>
      refine .hsl ho fun L hL => ?_
      simp only [Ctx.cut] at hL
      split at hL
      · exact hall L hL
      · simp at hL
  · cases h with
    | ptr hu hall =>
      refine .ptr ho fun L hL => ?_
      simp only [Ctx.cut] at hL
      split at hL
      · exact hall L hL
      · simp at hL
  · cases h with
    | mp hu hall =>
      refine .mp ho fun L hL => ?_
      simp only [Ctx.cut] at hL
      split at hL
      · exact hall L hL
      · simp at hL
  · exact key ho

theorem okL_rep {C : Ctx} {w : World} {s' : St} (hs : HSt C w s.heap) (h2 : 2 < s'.nx) (hnx : s'.nx ≤ C.nx) : ∀ {vs : List Value} {xs : List V}, RepL C w vs xs → RowOk s'.nx xs → RepL (C.cut s') w vs xs
  | _, _, .nil, _ => .nil
  | _, _, .cons h t, ho => .cons (ok_rep hs h2 hnx h ho.1) (okL_rep hs h2 hnx t ho.2)

theorem Down.rep {C : Ctx} {w : World} {a : Act} {s' : St} (d : Down s s') (hs : StRep C w a s) : StRep (C.cut s') w a s' ∧ Fr C (C.cut s') w w := by
  have hloc : ∀ u L, (C.cut s').loc u = some L → C.loc u = some L ∧ (hget s'.heap u).isSome = true := fun u L h => by
    simp only [Ctx.cut] at h
    split at h
    · exact ⟨h, by assumption⟩
    · simp at h
  have hnx : s'.nx ≤ C.nx := by rw [hs.nx]; exact d.nx
  refine ⟨⟨hs.defers, by rw [hs.size, d.n], rfl, fun i => ?_, ⟨fun u hu => ?_, fun u hb hu => ?_, fun u L hL => ?_, fun u u' L L' b h1 h2 => ?_, fun u L b l h1 h2 h3 => ?_, fun l b h => ?_, fun l h => ?_, fun l l' b h h' => ?_, ?_, d.two⟩, fun l hl => ?_⟩, ?_⟩
  · rcases envLe_get d.env i with h | ⟨h1, h2⟩
    · rw [h]; exact .junk _
    · have := hs.env i
      rw [← h1] at this
      exact ok_rep hs.heap d.two hnx this h2
  · simp [Ctx.cut, hu]
  · obtain ⟨h1, h2, h3⟩ := heapLe_get d.heap u hb hu
    obtain ⟨L, e1, e2, e3, e4⟩ := hs.heap.ent u hb h1
    refine ⟨L, by simp [Ctx.cut, hu, e1], e2, e3, ?_⟩
    refine e4.imp rfl id (fun _ _ => rfl) (fun b hn ⟨vals, g5⟩ => ⟨vals, fun i row hi => ⟨(g5 i row hi).1, (g5 i row hi).2.1, okL_rep hs.heap d.two hnx (g5 i row hi).2.2 (h3 row (List.mem_of_getElem? hi))⟩⟩) fun ents he => ⟨ents, he, fun vs hv => okL_rep hs.heap d.two hnx hv (h3 ents (by rw [he]; exact List.mem_singleton.2 rfl))⟩
  · obtain ⟨h1, h2⟩ := hloc u L hL
    obtain ⟨hb, hbe⟩ := Option.isSome_iff_exists.1 h2
    exact (heapLe_get d.heap u hb hbe).2.1
  · exact hs.heap.inj u u' L L' b (hloc u L h1).1 (hloc u' L' h2).1
  · exact hs.heap.own u L b l (hloc u L h1).1 h2 h3.1
  · exact hs.heap.regs l b h.1
  · exact h.2
  · exact hs.heap.rdis l l' b h.1 h'.1
  · have := d.two
    exact ⟨⟨hs.heap.zero.1, by show 0 < s'.nx; omega⟩, ⟨hs.heap.zero.2.1, by show 1 < s'.nx; omega⟩, fun h => hs.heap.zero.2.2 h.1⟩
  · exact ⟨hs.lv l (d.lv l hl).1, (d.lv l hl).2⟩
  · refine ⟨Nat.le_refl _, fun _ _ _ => rfl, fun b h => ?_, fun b h => h, fun b h => .inl h, rfl, rfl, fun u _ L' h => ⟨L', (hloc u L' h).1, .inl rfl⟩⟩
    rcases h with ⟨u, L, h1, h2⟩ | ⟨l, h1, h2, h3⟩
    · exact .inl (.inl ⟨u, L, (hloc u L h1).1, h2⟩)
    · exact .inl (.inr ⟨l, h1, h2.1, h3⟩)

theorem post_step {C C' : Ctx} {w w' : World} (F : Fr C C' w w') {e : Exit} {a : Act} {w2 : World} (h : Post C' w' K e a w2) : Post C w K e a w2 := by
  obtain ⟨C2, s2, h1, h3, h4⟩ := h
  exact ⟨C2, s2, h1, F.trans h3, h4⟩

theorem at_down {c : Code} {s' : St} (d : Down s s') (h : AT P c s' K) : AT P c s K := by
  intro C w a hs
  obtain ⟨h1, h2⟩ := d.rep hs
  exact wp_mono (h _ w a h1) (fun e a w q => post_step h2 q)

theorem at_seq {x y : Code} (h : AT P x s (thenK (fun s' => AT P y s' K) K)) : AT P (.seq x y) s K := by
  intro C w a hs
  refine wp_seq (wp_mono (h C w a hs) ?_)
  rintro e a' w' ⟨C', s', h1, h3, h4⟩
  cases e with
  | normal => exact wp_mono (h4 C' w' a' h1) (fun e a w q => post_step h3 q)
  | _ => exact ⟨C', s', h1, h3, h4⟩

theorem at_region {id : Nat} {l : List Oper} (h : AOps P ⟨l⟩ l s (fun s' => K .normal s')) : AT P (.region id ⟨l⟩ false) s K := by
  intro C w a hs
  exact wp_region_list (h C w a _ hs (fun C' w' a' s' h1 h3 h4 => ⟨C', s', h1, h3, h4⟩))

theorem at_skip (h : K .normal s) : AT P .skip s K := fun C _ _ hs => wp_skip ⟨C, s, hs, Fr.refl _ _, h⟩
theorem at_ret (h : K .ret s) : AT P .ret s K := fun C _ _ hs => wp_ret ⟨C, s, hs, Fr.refl _ _, h⟩
theorem at_exit {id : Nat} (h : K (.exit id) s) : AT P (.exit id) s K := fun C _ _ hs => wp_exit ⟨C, s, hs, Fr.refl _ _, h⟩

theorem at_cond {c : Operand} {x y : Code} {t : Bool} (hc : ev s c = .bool t) (ht : t = true → AT P x s K) (hf : t = false → AT P y s K) : AT P (.cond c x y) s K := by
  intro C w a hs
  have hv := hs.ev c
  rw [hc] at hv
  generalize hv' : a.eval c = v at hv
  cases hv
  exact wp_cond_split hv' (fun h => ht h C w a hs) (fun h => hf h C w a hs)

theorem at_block {id : Nat} {c : Code} (h : AT P c s (blockK id K)) : AT P (.block id c) s K := by
  intro C w a hs
  refine wp_block (wp_mono (h C w a hs) ?_)
  rintro e a' w' ⟨C', s', h1, h3, h4⟩
  cases e with
  | exit i =>
    simp only [blockK] at h4
    simp only [Exit.inBlock]
    split
    · rename_i hi; rw [if_pos hi] at h4; exact ⟨C', s', h1, h3, h4⟩
    · rename_i hi; rw [if_neg hi] at h4; exact ⟨C', s', h1, h3, h4⟩
  | _ => exact ⟨C', s', h1, h3, h4⟩

def loopK {α : Type} (I : α → St) (ok : α → Prop) (μ : α → Nat) (x : α) (K : Exit → St → Prop) : Exit → St → Prop
  | .normal, s => ∃ y, ok y ∧ μ y < μ x ∧ Down s (I y)
  | e, s => K e s

/-- A LOOP: its states are 'I x' for x that are ok; each round leads to another, of less measure, or out. -/
theorem at_loop {α : Type} {c : Code} (I : α → St) (ok : α → Prop) (μ : α → Nat) (x0 : α) (d0 : Down s (I x0)) (h0 : ok x0) (round : ∀ x, ok x → AT P c (I x) (loopK I ok μ x K)) : AT P (.loop c) s K := by
  intro C w a hs
  obtain ⟨h1, h2⟩ := d0.rep hs
  intro b k cs
  have key : ∀ n x, μ x = n → ok x → ∀ C w a, StRep C w a (I x) → ∃ e a' w', Post C w K e a' w' ∧ Arrives P (lone (b.at a (.code c :: .inLoop c :: k)) cs w) b k cs e a' w' := by
    intro n
    induction n using Nat.strongRecOn with
    | _ n ih =>
      intro x hn hok C w a hs
      obtain ⟨e, a1, w1, hq, harr⟩ := round x hok C w a hs b (.inLoop c :: k) cs
      cases e with
      | normal =>
        obtain ⟨C1, s1, g1, g2, y, gy, gm, gd⟩ := hq
        obtain ⟨e1, e2⟩ := gd.rep g1
        obtain ⟨e3, a2, w2, hq2, harr2⟩ := ih (μ y) (hn ▸ gm) y rfl gy _ w1 a1 e1
        exact ⟨e3, a2, w2, post_step (g2.trans e2) hq2, .of_steps (Steps.trans harr (.one step_inLoop)) harr2⟩
      | exit id => exact ⟨_, a1, w1, hq, .pass (x := .inLoop c) rfl (fun _ _ => .inl (by simp)) harr⟩
      | goto l => exact ⟨_, a1, w1, hq, .pass (x := .inLoop c) rfl (fun _ _ => .inl (by simp)) harr⟩
      | ret => exact ⟨_, a1, w1, hq, .pass (x := .inLoop c) rfl (fun _ _ => .inl (by simp)) harr⟩
      | panic ch => exact ⟨_, a1, w1, hq, .pass (x := .inLoop c) rfl (fun _ _ => .inl (by simp)) harr⟩
      | outgrown => exact ⟨_, a1, w1, hq, .pass (x := .inLoop c) rfl (fun _ _ => .inl (by simp)) harr⟩
  obtain ⟨e, a', w', hq, harr⟩ := key _ x0 rfl h0 _ w a h1
  exact ⟨e, a', w', post_step h2 hq, .of_steps (.one step_loop) harr⟩

end
end Go.Abs

namespace Go.Abs

def envOf : Nat → List V → List (Nat × V)
  | _, [] => []
  | k, x :: r => (k, x) :: envOf (k + 1) r

def FnOK (P : Program) (f : FuncId) : Prop := ∃ fn, P.funcs[f]? = some fn ∧ (fn.name == "runtime.NumGoroutine") = false ∧ fn.body.isNone = false

/-- A FUNCTION's CONTRACT: from arguments that are represented by these and rows that are the call's to change, it returns, with a result and rows of which R holds; all else in memory stays. -/
def FC (P : Program) (f : FuncId) (args : List V) (h : List (Nat × HB)) (nx : Nat) (R : V → List (Nat × HB) → Prop) : Prop :=
  FnOK P f ∧ ∀ C w (cargs : Array Value), C.nx = nx → HSt C w h → RepL C w cargs.toList args →
    Calls P f cargs w (fun e w' => ∃ v C' r h', e = .returned v ∧ HSt C' w' h' ∧ Rep C' w' v r ∧ Fr C C' w w' ∧ R r h')

theorem FC.mono {P : Program} {f : FuncId} {args : List V} {h : List (Nat × HB)} {nx : Nat} {R R' : V → List (Nat × HB) → Prop} (hc : FC P f args h nx R) (hr : ∀ r h, R r h → R' r h) : FC P f args h nx R' :=
  ⟨hc.1, fun C w cargs h1 h2 h3 => (hc.2 C w cargs h1 h2 h3).mono fun _ _ ⟨v, C', r, h', e1, e2, e3, e4, e5⟩ => ⟨v, C', r, h', e1, e2, e3, e4, hr _ _ e5⟩⟩

def res1 (T : List TI) (s : St) : ResultVar → Option V
  | .tmp t => (eget s.env t).force
  | .cell a t => pstep T s (.load t (.tmp a))
def resL (T : List TI) (s : St) : List ResultVar → Option (List V)
  | [] => some []
  | r :: rs => match res1 T s r, resL T s rs with
    | some v, some vs => some (v :: vs)
    | _, _ => none
def resV (T : List TI) (s : St) (rs : List ResultVar) : Option V :=
  match rs with
  | [r] => res1 T s r
  | rs => match resL T s rs with
    | some vs => some (.tup vs)
    | none => none

def retK (T : List TI) (rs : List ResultVar) (R : V → List (Nat × HB) → Prop) : Exit → St → Prop
  | .normal, s => ∃ r, resV T s rs = some r ∧ R r s.heap
  | .ret, s => ∃ r, resV T s rs = some r ∧ R r s.heap
  | _, _ => False

theorem ret_intro {T : List TI} {rs : List ResultVar} {R : V → List (Nat × HB) → Prop} {s : St} {r : V} (h : resV T s rs = some r) (hR : R r s.heap) : retK T rs R .ret s := ⟨r, h, hR⟩
theorem norm_intro {T : List TI} {rs : List ResultVar} {R : V → List (Nat × HB) → Prop} {s : St} {r : V} (h : resV T s rs = some r) (hR : R r s.heap) : retK T rs R .normal s := ⟨r, h, hR⟩

theorem ret_eq {T : List TI} {rs : List ResultVar} {s : St} {r x : V} (h : resV T s rs = some r) (hR : r = x) : retK T rs (fun y _ => y = x) .ret s := ⟨r, h, hR⟩
theorem norm_eq' {T : List TI} {rs : List ResultVar} {s : St} {r x : V} (h : resV T s rs = some r) (hR : r = x) : retK T rs (fun y _ => y = x) .normal s := ⟨r, h, hR⟩

section
variable {P : Program} {T : List TI} {s : St}

def runRes (t : ResultVar) (tmps : Array Value) : Sem Value := match t with
  | .tmp t => pure (tmps.getD t undef)
  | .cell a t => do loadVar t (← asAddr (tmps.getD a undef))

theorem res1_spec {C : Ctx} {w : World} {a : Act} {x : V} (hT : TabOK P T) (hs : StRep C w a s) {r : ResultVar} (h : res1 T s r = some x) : ∃ v, (runRes r a.tmps).run P w = .ok v w ∧ Rep C w v x := by
  cases r with
  | tmp t =>
    simp only [res1] at h
    rw [force_eq _ _ h]
    exact ⟨_, rfl, hs.env t⟩
  | cell b t =>
    simp only [res1] at h
    obtain ⟨v, h1, h2⟩ := pstep_sound (o := ⟨none, .load t (.tmp b), 0, "", #[], none⟩) hT hs h
    refine ⟨v, ?_, h2⟩
    have h3 := h1 w (Agree.refl w)
    simp only [execOp, Act.eval, Instr.loadAt, Sem.run_bind] at h3
    simp only [runRes, Sem.run_bind]
    generalize a.tmps.getD b undef = z at h3
    unfold Instr.sureAddr at h3
    split at h3
    · simp only [Sem.run_pure, Result.andThen_ok, asAddr] at h3 ⊢
      cases hr : (loadVar t _).run P w with
      | ok v' w' => rw [hr] at h3; simp at h3; rw [h3.1, h3.2]
      | halt e w' => rw [hr] at h3; simp at h3
    · simp at h3

theorem resL_spec {C : Ctx} {w : World} {a : Act} (hT : TabOK P T) (hs : StRep C w a s) : ∀ {rs : List ResultVar} {xs : List V}, resL T s rs = some xs → ∃ vs, (rs.mapM (fun r => runRes r a.tmps)).run P w = .ok vs w ∧ RepL C w vs xs
  | [], xs, h => by
    simp only [resL, Option.some.injEq] at h
    subst h
    exact ⟨[], by simp, .nil⟩
  | r :: rs, xs, h => by
    simp only [resL] at h
    split at h
    · rename_i x ys h1 h2
      simp only [Option.some.injEq] at h
      subst h
      obtain ⟨v, e1, e2⟩ := res1_spec hT hs h1
      obtain ⟨vs, e3, e4⟩ := resL_spec hT hs h2
      exact ⟨v :: vs, by simp [List.mapM_cons, e1, e3], .cons e2 e4⟩
    · simp at h

theorem resL_length : ∀ {rs : List ResultVar} {xs : List V}, resL T s rs = some xs → xs.length = rs.length
  | [], xs, h => by
    simp only [resL, Option.some.injEq] at h
    subst h; rfl
  | r :: rs, xs, h => by
    simp only [resL] at h
    split at h
    · rename_i x ys h1 h2
      simp only [Option.some.injEq] at h
      subst h
      simp [resL_length h2]
    · simp at h

theorem results_eq (fn : Func) (tmps : Array Value) : results fn tmps = (do
    let vs ← fn.results.toList.mapM (fun r => runRes r tmps)
    pure (match vs with | [v] => v | vs => .tuple ⟨vs⟩)) := by
  have e : results fn tmps = (do
      let vs ← fn.results.mapM (fun r => runRes r tmps)
      pure (if h : vs.size = 1 then vs[0] else .tuple vs)) := by
    unfold results
    congr 1
  rw [e, Array.mapM_eq_mapM_toList]
  simp only [bind_map_left]
  congr 1
  funext vs
  congr 1
  match vs with
  | [] => rfl
  | [v] => rfl
  | _ :: _ :: _ => simp

theorem resV_spec {C : Ctx} {w : World} {a : Act} {x : V} (hT : TabOK P T) (hs : StRep C w a s) (fn : Func) (h : resV T s fn.results.toList = some x) : ∃ v, (results fn a.tmps).run P w = .ok v w ∧ Rep C w v x := by
  rw [results_eq]
  unfold resV at h
  split at h
  · rename_i r hr
    obtain ⟨v, h1, h2⟩ := res1_spec hT hs h
    exact ⟨v, by simp [hr, h1], h2⟩
  · rename_i rs hne
    split at h
    · rename_i vs hl
      simp only [Option.some.injEq] at h
      subst h
      obtain ⟨us, h1, h2⟩ := resL_spec hT hs hl
      refine ⟨.tuple ⟨us⟩, ?_, .tup h2⟩
      have hlen := h2.length
      have : ∀ u, us = [u] → False := fun u hu => by
        subst hu
        have hx : vs.length = 1 := by rw [← hlen]; rfl
        rw [resL_length hl] at hx
        generalize fn.results.toList = rs at hne hx
        match rs, hne, hx with
        | [r], hne, _ => exact hne r rfl
      simp only [Sem.run_bind, h1, Result.andThen_ok, Sem.run_pure]
    · simp at h

theorem envOf_get (C : Ctx) (w : World) : ∀ (k : Nat) (vs : List Value) (xs : List V) (m : Nat), RepL C w vs xs → ∀ i, Rep C w ((vs ++ List.replicate m undef).getD (i - k) undef) (if k ≤ i then eget (envOf k xs) i else .junk)
  | k, _, _, m, .nil, i => by
    have : eget (envOf k []) i = .junk := rfl
    rw [this]; simp; exact .junk _
  | k, _, _, m, .cons (vs := vs) (xs := xs) h t, i => by
    by_cases hki : k ≤ i
    · rw [if_pos hki]
      simp only [envOf, eget]
      rw [Bool.cond_eq_ite]
      by_cases he : i = k
      · subst he
        rw [if_pos (by simp)]
        simpa using h
      · rw [if_neg (by simp [he])]
        have := envOf_get C w (k + 1) vs xs m t i
        rw [if_pos (by omega)] at this
        have e : i - k = (i - (k + 1)) + 1 := by omega
        rw [e]
        simpa using this
    · rw [if_neg hki]; exact .junk _

theorem eget_envOf_lt : ∀ (k : Nat) (xs : List V) (i : Nat), i < k → eget (envOf k xs) i = .junk
  | _, [], _, _ => rfl
  | k, x :: xs, i, h => by
    simp only [envOf, eget]
    rw [Bool.cond_eq_ite, if_neg (by simp; omega)]
    exact eget_envOf_lt (k + 1) xs i (by omega)

/-- INTO A FUNCTION's BODY. -/
theorem fc_intro {f : FuncId} {fn : Func} {c : Code} {args : List V} {h : List (Nat × HB)} {nx : Nat} {R : V → List (Nat × HB) → Prop} (hT : TabOK P T) (hf : P.funcs[f]? = some fn) (hb : fn.body = some c)
    (hnm : (fn.name == "runtime.NumGoroutine") = false) (hlen : args.length ≤ fn.ntmps) (hat : AT P c ⟨envOf 0 args, h, nx, fn.ntmps, []⟩ (retK T fn.results.toList R)) : FC P f args h nx R := by
  refine ⟨⟨fn, hf, hnm, by rw [hb]; rfl⟩, fun C w cargs hnx hh hargs => ?_⟩
  refine calls_of_wp hf hb ?_
  have hl := hargs.length
  have hl' : cargs.size = args.length := by simpa using hl
  have hs : StRep C w { tmps := cargs ++ Array.replicate (fn.ntmps - cargs.size) undef, defers := [] } ⟨envOf 0 args, h, nx, fn.ntmps, []⟩ := by
    refine ⟨rfl, by simp; omega, hnx, fun i => ?_, hh, fun l hl => by simp at hl⟩
    have := envOf_get C w 0 cargs.toList args (fn.ntmps - cargs.size) hargs i
    rw [if_pos (Nat.zero_le _)] at this
    have e : (cargs ++ Array.replicate (fn.ntmps - cargs.size) undef).getD i undef = (cargs.toList ++ List.replicate (fn.ntmps - cargs.size) undef).getD (i - 0) undef := by
      rw [Nat.sub_zero, ← Array.toList_replicate, ← Array.toList_append, Array.getD_eq_getD_getElem?, List.getD_eq_getElem?_getD, Array.getElem?_toList]
    rw [e]
    exact this
  refine wp_mono (hat C w _ hs) ?_
  rintro e a' w' ⟨C', s', h1, h3, h4⟩
  cases e <;> try exact h4.elim
  all_goals
    obtain ⟨r, h5, h6⟩ := h4
    obtain ⟨v, h7, h8⟩ := resV_spec hT h1 fn h5
    exact ⟨h1.defers, v, h7, v, C', r, s'.heap, rfl, h1.heap, h8, h3, h6⟩

/-! ### Calls -/
def evL (s : St) : List Operand → List V
  | [] => []
  | x :: r => ev s x :: evL s r

theorem evL_rep {C : Ctx} {w : World} {a : Act} (hs : StRep C w a s) : ∀ l : List Operand, RepL C w (l.map a.eval) (evL s l)
  | [] => .nil
  | x :: r => .cons (hs.ev x) (evL_rep hs r)

theorem aops_call {ops : Array Oper} {f : FuncId} {args : List Operand} {tys : Array TypeId} {d : Option Nat} {ty : Nat} {pos : String} {af : Array Edge} {gu : Option (Nat × Bool)} {r : List Oper} {K : St → Prop}
    (hg : gd ops.toList s gu = some true) (hf : FnOK P f)
    (h : ∀ C w a, StRep C w a s → Calls P f ⟨args.map a.eval⟩ w (fun e w' => ∃ v C' s', e = .returned v ∧ StRep C' w' (a.put d v) s' ∧ Fr C C' w w' ∧ AOps P ops r s' K)) :
    AOps P ops (⟨d, .call ⟨.value (.func f), ⟨args⟩, tys⟩, ty, pos, af, gu⟩ :: r) s K := by
  intro C w a Q hs g
  obtain ⟨fn, h1, h2, h3⟩ := hf
  unfold wpList
  rw [if_pos (gd_spec hs hg)]
  refine .inl ?_
  unfold Oper.wp
  have e : (execOp a.eval ⟨d, .call ⟨.value (.func f), ⟨args⟩, tys⟩, ty, pos, af, gu⟩).run P w = .ok (.enter f ⟨args.map a.eval⟩) w := by
    simp only [execOp, resolve, Act.eval, Deferred.ofValue, Sem.run_bind, Sem.run_pure, Result.andThen_ok, invoke, callFunc, run_program, h1, h2, h3]
    simp
  rw [e, Oper.upon_enter]
  refine (h C w a hs).mono ?_
  rintro e w' ⟨v, C', s', rfl, q1, q2, q3⟩
  exact q3 C' w' _ Q q1 (goal_step q2 g)

/-- What a callee of ours is handed: all that is there is only read. -/
def Ctx.callee (C : Ctx) (G : Nat → Prop) : Ctx := { reg := fun l b => l = 0 ∧ G b, lv := fun l => l ≤ 1, loc := fun _ => none, nx := 3 }

theorem callee_st (C : Ctx) (w : World) {G : Nat → Prop} (hG : ∀ b, G b → b < w.heap.size) : HSt (C.callee G) w [] where
  dom _ _ := rfl
  ent u hb h := by simp [hget] at h
  lt u L h := by simp [Ctx.callee] at h
  inj u u' L L' b h := by simp [Ctx.callee] at h
  own u L b l h := by simp [Ctx.callee] at h
  regs l b _ h := hG b h.2
  lvs l h := by have : l ≤ 1 := h; show l < 3; omega
  rdis l l' b _ _ h h' := by rw [h.1, h'.1]
  zero := ⟨Nat.zero_le _, Nat.le_refl _, by show ¬ 2 ≤ 1; omega⟩
  two := by show 2 < 3; omega

/-- Behind the call: the caller's own, and in its region 1 what the callee made. -/
def Ctx.back (C C2 : Ctx) (w : World) : Ctx := { C with reg := fun l b => C.reg l b ∨ (l = 1 ∧ C2.reg 1 b ∧ w.heap.size ≤ b) }

theorem callee_agree {C C2 : Ctx} {w w' : World} {G : Nat → Prop} (F : Fr (C.callee G) C2 w w') : Agree w w' := by
  refine ⟨F.size, fun b hb => F.keep b hb ?_, F.os, F.out⟩
  rintro (⟨u, L, h, _⟩ | ⟨l, h1, h2, _⟩)
  · simp [Ctx.callee] at h
  · have : l ≤ 1 := h2; omega

theorem back_st {C C2 : Ctx} {w w' : World} {a : Act} {G : Nat → Prop} {h2 : List (Nat × HB)} (hs : StRep C w a s) (F : Fr (C.callee G) C2 w w') (hst : HSt C2 w' h2) : StRep (C.back C2 w) w' a s ∧ Fr C (C.back C2 w) w w' := by
  have A := callee_agree F
  have hown : ∀ u L b, C.loc u = some L → L.blk = some b → b < w.heap.size := fun u L b h1 h2 => by
    cases hg : hget s.heap u with
    | none => rw [hs.heap.dom u hg] at h1; simp at h1
    | some hb => obtain ⟨L2, e1, _, _, e4⟩ := hs.heap.ent u hb hg; rw [h1] at e1; simp at e1; subst e1; exact blk_lt e4 h2
  have E : Ext C (C.back C2 w) w w' := ⟨Nat.le_refl _, fun _ L _ h => ⟨L, h, .inl rfl⟩, fun _ _ h => h, fun l b _ hl hb => ⟨.inl hb, A.2 b (hs.heap.regs l b hl hb)⟩⟩
  refine ⟨⟨hs.defers, hs.size, hs.nx, fun i => (hs.env i).mono E, ⟨hs.heap.dom, fun u hb hu => ?_, hs.heap.lt, hs.heap.inj, fun u L b l h1 h2 h3 h4 => ?_, fun l b h1 h2 => ?_, hs.heap.lvs, fun l l' b h1 h2 h3 h4 => ?_, hs.heap.zero, hs.heap.two⟩, hs.lv⟩, ?_⟩
  · obtain ⟨L, e1, e2, e3, e4⟩ := hs.heap.ent u hb hu
    exact ⟨L, e1, e2, e3, e4.mono E (fun b hb => A.2 b (blk_lt e4 hb))⟩
  · rcases h4 with h4 | ⟨_, _, h4⟩
    · exact hs.heap.own u L b l h1 h2 h3 h4
    · have := hown u L b h1 h2; omega
  · rcases h2 with h2 | ⟨h2, h3, _⟩
    · exact Nat.lt_of_lt_of_le (hs.heap.regs l b h1 h2) A.1
    · exact hst.regs 1 b hst.zero.2.1 h3
  · rcases h3 with h3 | ⟨e3, _, h3⟩ <;> rcases h4 with h4 | ⟨e4, _, h4⟩
    · exact hs.heap.rdis l l' b h1 h2 h3 h4
    · have := hs.heap.regs l b h1 h3; omega
    · have := hs.heap.regs l' b h2 h4; omega
    · rw [e3, e4]
  · refine ⟨A.1, fun b hb _ => A.2 b hb, fun b h => ?_, fun b h => ?_, fun b h => ?_, A.os, A.out, fun _ _ L h => ⟨L, h, .inl rfl⟩⟩
    · rcases h with h | ⟨l, h1, h2, h3⟩
      · exact .inl (.inl h)
      · rcases h3 with h3 | ⟨e3, _, h3⟩
        · exact .inl (.inr ⟨l, h1, h2, h3⟩)
        · omega
    · rcases h with h | ⟨e, _⟩
      · exact h
      · omega
    · rcases h with h | ⟨_, _, h⟩
      · exact .inl h
      · exact .inr (.inr h)

def f0 (s : St) (l : Nat) : Nat := bif s.live l then 0 else 2
def f01 (l : Nat) : Nat := bif Nat.beq l 1 then 1 else 2
def fB (l : Nat) : Nat := bif Nat.beq l 0 then 0 else 2

/-- A CALL of a function that only reads what there is; its result lies in new memory, or in none. -/
theorem call_fresh {ops : Array Oper} {f : FuncId} {args : List Operand} {args' : List V} {R : V → List (Nat × HB) → Prop} {tys : Array TypeId} {d : Option Nat} {ty : Nat} {pos : String} {af : Array Edge} {gu : Option (Nat × Bool)} {r : List Oper} {K : St → Prop}
    (hc : FC P f args' [] 3 R) (hg : gd ops.toList s gu = some true) (hv : V.rlL (f0 s) (evL s args) = args')
    (h : ∀ x hh, R x hh → ∃ s1, s.put d (x.rl f01) = some s1 ∧ AOps P ops r s1 K) :
    AOps P ops (⟨d, .call ⟨.value (.func f), ⟨args⟩, tys⟩, ty, pos, af, gu⟩ :: r) s K :=
  aops_call hg hc.1 fun C w a hs => by
    have hargs : RepL (C.callee (· < w.heap.size)) w (args.map a.eval) args' := by
      rw [← hv]
      refine RepL.rl (C := C) ⟨fun l _ => ?_, fun l _ hl => ?_, fun l b _ hl hb => ⟨?_, rfl⟩⟩ (evL_rep hs args)
      · show f0 s l < 3
        unfold f0; cases s.live l <;> decide
      · cases hlv : s.live l
        · simp only [f0, hlv, cond_false] at hl
          exact absurd hl (by show ¬ 2 ≤ 1; omega)
        · exact hs.live hlv
      · cases hlv : s.live l
        · simp only [f0, hlv, cond_false] at hl
          exact absurd hl (by show ¬ 2 ≤ 1; omega)
        · exact ⟨by simp [f0, hlv], hs.heap.regs l b (hs.live hlv) hb⟩
    refine (hc.2 (C.callee (· < w.heap.size)) w ⟨args.map a.eval⟩ rfl (callee_st C w fun b h => h) hargs).mono ?_
    rintro e w' ⟨v, C2, x, h2, rfl, e2, e3, e4, e5⟩
    obtain ⟨b1, b2⟩ := back_st hs e4 e2
    obtain ⟨s1, p1, p2⟩ := h x h2 e5
    refine ⟨v, _, s1, rfl, put_rep b1 (Rep.rl (C := C2) ⟨fun l _ => ?_, fun l _ hl => ?_, fun l b _ hl hb => ⟨?_, rfl⟩⟩ e3) p1, b2, p2⟩
    · have := hs.heap.two
      show f01 l < C.nx
      unfold f01; cases Nat.beq l 1 <;> simp <;> omega
    · unfold f01 at hl
      cases hb : Nat.beq l 1
      · rw [hb] at hl; exact absurd hl hs.heap.zero.2.2
      · rw [Nat.beq_eq] at hb; rw [hb]; exact e2.zero.2.1
    · unfold f01 at hl ⊢
      cases hb1 : Nat.beq l 1
      · rw [hb1] at hl; exact absurd hl hs.heap.zero.2.2
      · rw [Nat.beq_eq] at hb1
        subst hb1
        refine .inr ⟨rfl, hb, ?_⟩
        rcases e4.r1 b hb with h | h | h
        · exact absurd h.1 (by omega)
        · rcases h with ⟨u, L, h, _⟩ | ⟨l, h1, h2, _⟩
          · simp [Ctx.callee] at h
          · have : l ≤ 1 := h2; omega
        · exact h

/-- The same, the result known. -/
theorem call_eq {ops : Array Oper} {f : FuncId} {args : List Operand} {args' : List V} {x : V} {tys : Array TypeId} {d : Option Nat} {ty : Nat} {pos : String} {af : Array Edge} {gu : Option (Nat × Bool)} {r : List Oper} {K : St → Prop} {s1 : St}
    (hc : FC P f args' [] 3 (fun y _ => y = x)) (hg : gd ops.toList s gu = some true) (hv : V.rlL (f0 s) (evL s args) = args') (hx : x.rl f01 = x) (hp : s.put d x = some s1) (h : AOps P ops r s1 K) :
    AOps P ops (⟨d, .call ⟨.value (.func f), ⟨args⟩, tys⟩, ty, pos, af, gu⟩ :: r) s K :=
  call_fresh hc hg hv fun y _ e => by subst e; exact ⟨s1, by rw [hx]; exact hp, h⟩

end
end Go.Abs

namespace Go.Abs

section
variable {P : Program} {T : List TI} {s : St} {ops : Array Oper} {d : Option Nat} {ty : Nat} {pos : String} {af : Array Edge} {gu : Option (Nat × Bool)} {r : List Oper} {K : St → Prop} {s1 : St}

/-- Into a function's body, its numbers written out. -/
theorem fc_body {f : FuncId} {fn : Func} {c : Code} {args : List V} {h : List (Nat × HB)} {nx n : Nat} {rs : List ResultVar} {R : V → List (Nat × HB) → Prop} (hT : TabOK P T) (hf : P.funcs[f]? = some fn) (hb : fn.body = some c)
    (hn : fn.ntmps = n) (hr : fn.results.toList = rs) (hnm : (fn.name == "runtime.NumGoroutine") = false) (hlen : Nat.ble args.length n = true)
    (hat : AT P c ⟨envOf 0 args, h, nx, n, []⟩ (retK T rs R)) : FC P f args h nx R := by
  subst hn; subst hr
  exact fc_intro hT hf hb hnm (Nat.le_of_ble_eq_true hlen) hat

theorem wrap64_id {x : Int} (h : -9223372036854775808 ≤ x ∧ x ≤ 9223372036854775807) : IntKind.i64.wrap x = x := IntWalk.i64_in _ h

theorem s_val {o : Op} {x : V} (hg : gd ops.toList s gu = some true)
    (hx : ∀ C w a, StRep C w a s → ∃ v, (execOp a.eval ⟨d, o, ty, pos, af, gu⟩).run P w = .ok (.value v) w ∧ Rep C w v x) (hp : s.put d x = some s1) (h : AOps P ops r s1 K) :
    AOps P ops (⟨d, o, ty, pos, af, gu⟩ :: r) s K :=
  aops_value hg fun C w a hs => by
    obtain ⟨v, h1, h2⟩ := hx C w a hs
    exact ⟨v, w, C, s1, h1, put_rep hs h2 hp, Fr.refl _ _, h⟩

/-- A sum that does not wrap. -/
theorem s_add {t t' : Nat} {x y : Operand} {a b : Int} (hT : TabOK P T) (hg : gd ops.toList s gu = some true) (hx : ev s x = .int .i64 a) (hy : ev s y = .int .i64 b)
    (hb : -9223372036854775808 ≤ a + b ∧ a + b ≤ 9223372036854775807) (hp : s.put d (.int .i64 (a + b)) = some s1) (h : AOps P ops r s1 K) :
    AOps P ops (⟨d, .binOp .add t x y t', ty, pos, af, gu⟩ :: r) s K :=
  aops_pure (T := T) hT hg (x := .int .i64 (a + b)) (by simp only [pstep, hx, hy, pbin, wrap64_id hb, ↓reduceIte]) hp h

theorem s_sub {t t' : Nat} {x y : Operand} {a b : Int} (hT : TabOK P T) (hg : gd ops.toList s gu = some true) (hx : ev s x = .int .i64 a) (hy : ev s y = .int .i64 b)
    (hb : -9223372036854775808 ≤ a - b ∧ a - b ≤ 9223372036854775807) (hp : s.put d (.int .i64 (a - b)) = some s1) (h : AOps P ops r s1 K) :
    AOps P ops (⟨d, .binOp .sub t x y t', ty, pos, af, gu⟩ :: r) s K :=
  aops_pure (T := T) hT hg (x := .int .i64 (a - b)) (by simp only [pstep, hx, hy, pbin, wrap64_id hb, ↓reduceIte]) hp h

theorem s_mul {t t' : Nat} {x y : Operand} {a b : Int} (hT : TabOK P T) (hg : gd ops.toList s gu = some true) (hx : ev s x = .int .i64 a) (hy : ev s y = .int .i64 b)
    (hb : -9223372036854775808 ≤ a * b ∧ a * b ≤ 9223372036854775807) (hp : s.put d (.int .i64 (a * b)) = some s1) (h : AOps P ops r s1 K) :
    AOps P ops (⟨d, .binOp .mul t x y t', ty, pos, af, gu⟩ :: r) s K :=
  aops_pure (T := T) hT hg (x := .int .i64 (a * b)) (by simp only [pstep, hx, hy, pbin, wrap64_id hb, ↓reduceIte]) hp h

def strT (T : List TI) (t : Nat) : Bool := match T[t]? with | some ti => (match ti.kind with | .string => true | _ => false) | none => false
theorem strT_spec {t : Nat} (hT : TabOK P T) (h : strT T t = true) : P.underlying t = some .string := by
  unfold strT at h
  split at h
  · rename_i ti ht
    split at h
    · rename_i hk; exact hT.string ht hk
    · simp at h
  · simp at h

/-- A byte of a string. -/
theorem s_index {t : Nat} {x i : Operand} {l : List UInt8} {k : IntKind} {n : Int} {b : UInt8} (hT : TabOK P T) (hg : gd ops.toList s gu = some true) (ht : strT T t = true) (hx : ev s x = .str l) (hi : ev s i = .int k n)
    (h0 : 0 ≤ n) (hb : l[n.toNat]? = some b) (hp : s.put d (.int .u8 b.toNat) = some s1) (h : AOps P ops r s1 K) :
    AOps P ops (⟨d, .index t x i, ty, pos, af, gu⟩ :: r) s K :=
  s_val hg (fun C w a hs => by
    have hv := hs.ev x; rw [hx] at hv
    have hv2 := hs.ev i; rw [hi] at hv2
    generalize e1 : a.eval x = v at hv
    generalize e2 : a.eval i = v2 at hv2
    cases hv; cases hv2
    refine ⟨.int .u8 b.toNat, ?_, .int _ _⟩
    have hg' : (⟨l.toArray⟩ : ByteArray)[n.toNat]? = some b := by
      have hlt : n.toNat < l.length := by
        rcases Nat.lt_or_ge n.toNat l.length with h | h
        · exact h
        · simp [List.getElem?_eq_none h] at hb
      have e : (⟨l.toArray⟩ : ByteArray).size = l.length := bytes_size l
      rw [getElem?_pos (⟨l.toArray⟩ : ByteArray) n.toNat (by rw [e]; exact hlt)]
      rw [List.getElem?_eq_getElem hlt] at hb
      simp only [Option.some.injEq] at hb
      subst hb
      rfl
    simp [execOp, e1, e2, Instr.index, asIntOf, run_underlying (strT_spec hT ht), h0, hg']) hp h

/-- The element type of a slice, and its size. -/
def elemT (T : List TI) (t : Nat) : Option (Nat × Nat) := match T[t]? with
  | some ti => (match ti.kind with
    | .slice e => (match T[e]? with | some ⟨_, size, _, _, _⟩ => some (e, size) | none => none)
    | _ => none)
  | none => none
theorem elemT_spec {t e sz : Nat} (hT : TabOK P T) (h : elemT T t = some (e, sz)) : P.underlying t = some (.slice e) ∧ ∃ te, T[e]? = some te ∧ te.size = sz := by
  unfold elemT at h
  split at h
  · rename_i ti ht
    split at h
    · rename_i e' hk
      split at h
      · rename_i kd size bts zero ag hte
        simp only [Option.some.injEq, Prod.mk.injEq] at h
        obtain ⟨rfl, rfl⟩ := h
        exact ⟨hT.slice ht hk, _, hte, rfl⟩
      · simp at h
    · simp at h
  · simp at h

/-- The address of an element of a slice that is only read. -/
theorem s_addr {t e sz l : Nat} {x i : Operand} {rows : List (List V)} {row : List V} {k : IntKind} {n : Int} (hT : TabOK P T) (hg : gd ops.toList s gu = some true) (ht : elemT T t = some (e, sz)) (hx : ev s x = .psl l sz rows) (hl : s.live l = true) (hi : ev s i = .int k n)
    (h0 : 0 ≤ n) (hr : rows[n.toNat]? = some row) (hp : s.put d (.pptr l sz [row] 0 0) = some s1) (h : AOps P ops r s1 K) :
    AOps P ops (⟨d, .indexAddr t x i, ty, pos, af, gu⟩ :: r) s K :=
  s_val hg (fun C w a hs => by
    have hv := hs.ev x; rw [hx] at hv
    have hv2 := hs.ev i; rw [hi] at hv2
    generalize e1 : a.eval x = v at hv
    generalize e2 : a.eval i = v2 at hv2
    cases hv2
    obtain ⟨hu, te, hte, hsz⟩ := elemT_spec hT ht
    cases hv with
    | psl0 => simp at hr
    | psld _ h1 _ => exact absurd (hs.live hl) h1
    | psl vals h1 h2 h3 h4 hcap h5 h6 =>
      rename_i b off len cap
      have hlt : n.toNat < rows.length := by
        rcases Nat.lt_or_ge n.toNat rows.length with h | h
        · exact h
        · simp [List.getElem?_eq_none h] at hr
      have hin : n < (len : Int) := by omega
      refine ⟨.pointer (some ⟨b, off + n.toNat * sz + 0 * sz + 0, none⟩), ?_, .pptr (o := off + n.toNat * sz) (fun _ => vals n.toNat) h1 h2 h3 (fun j r' hj => ?_) (fun j r' hj => ?_)⟩
      · simp [execOp, e1, e2, Instr.indexAt, asIntOf, run_underlying hu, h0, hin, hT.size hte, hsz, addr_add]
      · cases j with
        | zero =>
          simp at hj; subst hj
          refine ⟨(h5 _ _ hr).1, fun j v hj => ?_⟩
          rw [Nat.zero_mul, Nat.add_zero]
          exact (h5 _ _ hr).2 j v hj
        | succ j => simp at hj
      · cases j with
        | zero => simp at hj; subst hj; exact h6 _ _ hr
        | succ j => simp at hj) hp h

def St.ovr : St → Nat → V → St
  | ⟨env, heap, nx, n, lv⟩, d, v => ⟨(d, v) :: env, heap, nx, n, lv⟩

theorem ovr_rep {C : Ctx} {w : World} {a : Act} (hs : StRep C w a s) {d : Nat} {x : V} (h : eget s.env d = x) : StRep C w a (s.ovr d x) := by
  subst h
  cases s with
  | mk env heap nx n lv =>
    refine ⟨hs.defers, hs.size, hs.nx, fun i => ?_, hs.heap, hs.lv⟩
    simp only [St.ovr, eget]
    rw [Bool.cond_eq_ite]
    split
    · rename_i h; rw [Nat.beq_eq] at h; subst h; exact hs.env _
    · exact hs.env i

theorem gd_at {l : List Oper} {j g : Nat} {want b : Bool} (hd : (l[j]?).bind (·.dst) = some g) (hv : eget s.env g = .bool b) : gd l s (some (j, want)) = some (b == want) := by
  unfold gd
  simp only
  rw [hd]
  simp only
  rw [hv]

/-- A guard that is not decided: both ways. -/
theorem s_split {o : Op} {j : Nat} {want : Bool} {g : Nat} {b : Bool} {s2 : St} (hd : (ops.toList[j]?).bind (·.dst) = some g) (hv : eget s.env g = .bool b) (hp : (s.ovr g (.bool (!want))).put d (.tup []) = some s2)
    (ht : b = want → AOps P ops (⟨d, o, ty, pos, af, none⟩ :: r) (s.ovr g (.bool want)) K) (hf : b = (!want) → AOps P ops r s2 K) :
    AOps P ops (⟨d, o, ty, pos, af, some (j, want)⟩ :: r) s K := by
  intro C w a Q hs hq
  by_cases hb : b = want
  · subst hb
    have h1 := ht rfl C w a Q (ovr_rep hs hv) hq
    unfold wpList at h1 ⊢
    rw [if_pos (by simp [Region.wanted])] at h1
    rw [if_pos ((gd_spec (ops := ops) hs (gd_at hd hv)).trans (by simp))]
    exact h1
  · have hb' : b = !want := by cases b <;> cases want <;> simp_all
    subst hb'
    have hs1 := ovr_rep hs hv
    have h1 := hf rfl C w _ Q (put_rep hs1 (.tup .nil) hp) hq
    unfold wpList
    rw [if_neg (by rw [gd_spec (ops := ops) hs (gd_at hd hv)]; simp)]
    exact h1

theorem s_splitT {o : Op} {j : Nat} {g : Nat} {p : Prop} [Decidable p] {s2 : St} (hd : (ops.toList[j]?).bind (·.dst) = some g) (hv : eget s.env g = .bool (decide p)) (hp : (s.ovr g (.bool false)).put d (.tup []) = some s2)
    (ht : p → AOps P ops (⟨d, o, ty, pos, af, none⟩ :: r) (s.ovr g (.bool true)) K) (hf : ¬p → AOps P ops r s2 K) :
    AOps P ops (⟨d, o, ty, pos, af, some (j, true)⟩ :: r) s K :=
  s_split hd hv hp (fun h => ht (by simpa using h)) (fun h => hf (by simpa using h))
theorem s_splitF {o : Op} {j : Nat} {g : Nat} {p : Prop} [Decidable p] {s2 : St} (hd : (ops.toList[j]?).bind (·.dst) = some g) (hv : eget s.env g = .bool (decide p)) (hp : (s.ovr g (.bool true)).put d (.tup []) = some s2)
    (ht : ¬p → AOps P ops (⟨d, o, ty, pos, af, none⟩ :: r) (s.ovr g (.bool false)) K) (hf : p → AOps P ops r s2 K) :
    AOps P ops (⟨d, o, ty, pos, af, some (j, false)⟩ :: r) s K :=
  s_split hd hv hp (fun h => ht (by simpa using h)) (fun h => hf (by simpa using h))
theorem s_splitTn {o : Op} {j : Nat} {g : Nat} {p : Prop} [Decidable p] {s2 : St} (hd : (ops.toList[j]?).bind (·.dst) = some g) (hv : eget s.env g = .bool (!decide p)) (hp : (s.ovr g (.bool false)).put d (.tup []) = some s2)
    (ht : ¬p → AOps P ops (⟨d, o, ty, pos, af, none⟩ :: r) (s.ovr g (.bool true)) K) (hf : p → AOps P ops r s2 K) :
    AOps P ops (⟨d, o, ty, pos, af, some (j, true)⟩ :: r) s K :=
  s_split hd hv hp (fun h => ht (by simpa using h)) (fun h => hf (by simpa using h))
theorem s_splitFn {o : Op} {j : Nat} {g : Nat} {p : Prop} [Decidable p] {s2 : St} (hd : (ops.toList[j]?).bind (·.dst) = some g) (hv : eget s.env g = .bool (!decide p)) (hp : (s.ovr g (.bool true)).put d (.tup []) = some s2)
    (ht : p → AOps P ops (⟨d, o, ty, pos, af, none⟩ :: r) (s.ovr g (.bool false)) K) (hf : ¬p → AOps P ops r s2 K) :
    AOps P ops (⟨d, o, ty, pos, af, some (j, false)⟩ :: r) s K :=
  s_split hd hv hp (fun h => ht (by simpa using h)) (fun h => hf (by simpa using h))

theorem at_ifd {c : Operand} {x y : Code} {p : Prop} [Decidable p] {K : Exit → St → Prop} (hc : ev s c = .bool (decide p)) (ht : p → AT P x s K) (hf : ¬p → AT P y s K) : AT P (.cond c x y) s K :=
  at_cond hc (fun h => ht (by simpa using h)) (fun h => hf (by simpa using h))
theorem at_ifn {c : Operand} {x y : Code} {p : Prop} [Decidable p] {K : Exit → St → Prop} (hc : ev s c = .bool (!decide p)) (ht : ¬p → AT P x s K) (hf : p → AT P y s K) : AT P (.cond c x y) s K :=
  at_cond hc (fun h => ht (by simpa using h)) (fun h => hf (by simpa using h))
/-- The same; behind it the slot is known. -/
theorem at_ift {t : Nat} {x y : Code} {b : Bool} {K : Exit → St → Prop} (hc : eget s.env t = .bool b) (ht : b = true → AT P x (s.ovr t (.bool true)) K) (hf : b = false → AT P y (s.ovr t (.bool false)) K) : AT P (.cond (.tmp t) x y) s K :=
  at_cond (t := b) hc (fun h C w a hs => ht h C w a (ovr_rep hs (by rw [hc, h]))) (fun h C w a hs => hf h C w a (ovr_rep hs (by rw [hc, h])))
theorem at_iftd {t : Nat} {x y : Code} {p : Prop} [Decidable p] {K : Exit → St → Prop} (hc : eget s.env t = .bool (decide p)) (ht : p → AT P x (s.ovr t (.bool true)) K) (hf : ¬p → AT P y (s.ovr t (.bool false)) K) : AT P (.cond (.tmp t) x y) s K :=
  at_ift hc (fun h => ht (by simpa using h)) (fun h => hf (by simpa using h))
theorem at_iftn {t : Nat} {x y : Code} {p : Prop} [Decidable p] {K : Exit → St → Prop} (hc : eget s.env t = .bool (!decide p)) (ht : ¬p → AT P x (s.ovr t (.bool true)) K) (hf : p → AT P y (s.ovr t (.bool false)) K) : AT P (.cond (.tmp t) x y) s K :=
  at_ift hc (fun h => ht (by simpa using h)) (fun h => hf (by simpa using h))
theorem at_cond' {c : Operand} {x y : Code} {t : Bool} {K : Exit → St → Prop} (hc : ev s c = .bool t) (ht : t = true → AT P x s K) (hf : t = false → AT P y s K) : AT P (.cond c x y) s K := at_cond hc ht hf
theorem at_true {c : Operand} {x y : Code} {K : Exit → St → Prop} (hc : ev s c = .bool true) (h : AT P x s K) : AT P (.cond c x y) s K := at_cond hc (fun _ => h) (fun h => by cases h)
theorem at_false {c : Operand} {x y : Code} {K : Exit → St → Prop} (hc : ev s c = .bool false) (h : AT P y s K) : AT P (.cond c x y) s K := at_cond hc (fun h => by cases h) (fun _ => h)
theorem bk_hit {id : Nat} {K : Exit → St → Prop} (h : K .normal s) : blockK id K (.exit id) s := by
  show (if id = id then K .normal s else K (.exit id) s)
  rw [if_pos rfl]; exact h
theorem bk_miss {id i : Nat} {K : Exit → St → Prop} (hne : Nat.beq i id = false) (h : K (.exit i) s) : blockK id K (.exit i) s := by
  show (if i = id then K .normal s else K (.exit i) s)
  rw [if_neg (fun e => by subst e; simp at hne)]
  exact h

/-- All ways through x lead to one state that tells enough. -/
theorem at_cut {x y : Code} {K : Exit → St → Prop} (s2 : St) (h : AT P x s (thenK (fun s' => Down s' s2) K)) (h2 : AT P y s2 K) : AT P (.seq x y) s K := by
  refine at_seq ?_
  unfold AT at *
  intro C w a hs
  refine wp_mono (h C w a hs) ?_
  rintro e a' w' ⟨C', s', q1, q2, q3⟩
  refine ⟨C', s', q1, q2, ?_⟩
  cases e with
  | normal => exact at_down q3 h2
  | _ => exact q3

theorem s_byte {t : Nat} {x i : Operand} {l : List UInt8} {k : IntKind} {n : Int} (hT : TabOK P T) (hg : gd ops.toList s gu = some true) (ht : strT T t = true) (hx : ev s x = .str l) (hi : ev s i = .int k n)
    (h0 : 0 ≤ n ∧ n < l.length) (hp : s.put d (.int .u8 (l.getD n.toNat 0).toNat) = some s1) (h : AOps P ops r s1 K) :
    AOps P ops (⟨d, .index t x i, ty, pos, af, gu⟩ :: r) s K :=
  s_index hT hg ht hx hi h0.1 (b := l.getD n.toNat 0) (by
    have : n.toNat < l.length := by omega
    simp [List.getD, List.getElem?_eq_getElem this]) hp h

/-- A state tells less: slots alone. -/
theorem down_env {s2 : St} (he : EnvLe s s2.nx s2.env) (hh : s2.heap = []) (hx : Nat.ble s2.nx s.nx = true) (h2 : Nat.blt 2 s2.nx = true) (hn : s2.n = s.n) (hl : s2.lv = []) : Down s s2 :=
  ⟨he, by rw [hh]; trivial, Nat.le_of_ble_eq_true hx, by simpa using h2, hn, by rw [hl]; exact fun _ h => by cases h⟩
theorem ee_nil {n : Nat} : EnvLe s n [] := trivial
theorem ee_cons {n i : Nat} {x y : V} {l : List (Nat × V)} (h : eget s.env i = y) (he : y = x) (ho : Ok n x) (t : EnvLe s n l) : EnvLe s n ((i, x) :: l) := ⟨⟨h.trans he, ho⟩, t⟩

end
end Go.Abs
