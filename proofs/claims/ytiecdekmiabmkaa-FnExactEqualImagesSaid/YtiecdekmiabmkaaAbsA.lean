/-
  Abstract values over the machine's values: pure slices as lists, slices and variables of the call's own by literal numbers; what represents what; that it lasts.
-/
import Derived.WalkKit
set_option linter.unusedVariables false
set_option linter.unusedSimpArgs false
namespace Go.Abs

/-- An abstract value. 'psl': a slice that is only read, its rows written out (l: the region it lies in). 'hsl': a slice of a row that this call owns (number u). 'ptr': a pointer into such a row (n: how many rows there were). -/
inductive V where
  | int (k : IntKind) (n : Int)
  | bool (b : Bool)
  | str (s : List UInt8)
  | agg (cs : List V)
  | tup (vs : List V)
  | psl (l sz : Nat) (rows : List (List V))
  | hsl (u i len : Nat)
  | nilsl
  | ptr (u n i off : Nat)
  | pptr (l sz : Nat) (rows : List (List V)) (i off : Nat)
  | nilp
  | fn (f : Nat)
  | junk
  deriving Inhabited

structure HB where
  sz : Nat
  rows : List (List V)

structure Loc where
  blk : Option Nat
  sz : Nat
  n : Nat
  cap : Nat

structure Ctx where
  reg : Nat → Nat → Prop
  lv : Nat → Prop
  loc : Nat → Option Loc
  nx : Nat

def HSL (L : Loc) (i len : Nat) (v : Value) : Prop :=
  match L.blk with
  | some b => v = .slice (some ⟨b, i * L.sz, none⟩) len (L.cap - i)
  | none => v = .slice none 0 0

mutual
inductive Rep (C : Ctx) (w : World) : Value → V → Prop
  | int (k : IntKind) (n : Int) : Rep C w (.int k n) (.int k n)
  | bool (b : Bool) : Rep C w (.bool b) (.bool b)
  | str (s : List UInt8) : Rep C w (.string ⟨s.toArray⟩) (.str s)
  | agg {vs : List Value} {cs : List V} (h : RepL C w vs cs) : Rep C w (.agg ⟨vs⟩) (.agg cs)
  | tup {vs : List Value} {cs : List V} (h : RepL C w vs cs) : Rep C w (.tuple ⟨vs⟩) (.tup cs)
  | psl0 (a : Option Addr) (cap l sz : Nat) : Rep C w (.slice a 0 cap) (.psl l sz [])
  | psl {l b off sz len cap : Nat} {rows : List (List V)} (vals : Nat → List Value) (hl : C.lv l) (hn : l < C.nx) (hb : C.reg l b) (hlen : len = rows.length) (hcap : len ≤ cap)
      (hc : ∀ i row, rows[i]? = some row → (vals i).length = sz ∧ ∀ j v, (vals i)[j]? = some v → w.cell? ⟨b, off + i * sz + j, none⟩ = some v)
      (hr : ∀ i row, rows[i]? = some row → RepL C w (vals i) row) : Rep C w (.slice (some ⟨b, off, none⟩) len cap) (.psl l sz rows)
  | psld {l sz : Nat} {rows : List (List V)} (v : Value) (hl : ¬ C.lv l) (hn : l < C.nx) : Rep C w v (.psl l sz rows)
  | hsl {u i len : Nat} {v : Value} (hu : u < C.nx) (h : ∀ L, C.loc u = some L → i + len ≤ L.n ∧ (i + len = L.n → HSL L i len v)) : Rep C w v (.hsl u i len)
  | nilsl : Rep C w (.slice none 0 0) .nilsl
  | ptr {u n i off : Nat} {v : Value} (hu : u < C.nx) (h : ∀ L, C.loc u = some L → n ≤ L.n ∧ (n = L.n → ∃ b, L.blk = some b ∧ v = .pointer (some ⟨b, i * L.sz + off, none⟩))) : Rep C w v (.ptr u n i off)
  | pptr {l b o sz i off : Nat} {rows : List (List V)} (vals : Nat → List Value) (hl : C.lv l) (hn : l < C.nx) (hb : C.reg l b)
      (hc : ∀ i row, rows[i]? = some row → (vals i).length = sz ∧ ∀ j v, (vals i)[j]? = some v → w.cell? ⟨b, o + i * sz + j, none⟩ = some v)
      (hr : ∀ i row, rows[i]? = some row → RepL C w (vals i) row) : Rep C w (.pointer (some ⟨b, o + i * sz + off, none⟩)) (.pptr l sz rows i off)
  | pptrd {l sz i off : Nat} {rows : List (List V)} (v : Value) (hl : ¬ C.lv l) (hn : l < C.nx) : Rep C w v (.pptr l sz rows i off)
  | nilp : Rep C w (.pointer none) .nilp
  | fn (f : Nat) : Rep C w (.func (.func f) #[] #[]) (.fn f)
  | junk (v : Value) : Rep C w v .junk
inductive RepL (C : Ctx) (w : World) : List Value → List V → Prop
  | nil : RepL C w [] []
  | cons {v : Value} {x : V} {vs : List Value} {xs : List V} (h : Rep C w v x) (t : RepL C w vs xs) : RepL C w (v :: vs) (x :: xs)
end

structure Ext (C C' : Ctx) (w w' : World) : Prop where
  nx : C.nx ≤ C'.nx
  loc : ∀ u L', u < C.nx → C'.loc u = some L' → ∃ L, C.loc u = some L ∧ (L' = L ∨ L.n < L'.n)
  lv : ∀ l, l < C.nx → C'.lv l → C.lv l
  reg : ∀ l b, l < C.nx → C'.lv l → C.reg l b → C'.reg l b ∧ w'.heap[b]? = w.heap[b]?

theorem cell_of_block {w w' : World} {b : Nat} (h : w'.heap[b]? = w.heap[b]?) (o : Nat) : w'.cell? ⟨b, o, none⟩ = w.cell? ⟨b, o, none⟩ := by
  unfold World.cell?; simp [h]

mutual
theorem Rep.mono {C C' : Ctx} {w w' : World} (E : Ext C C' w w') : ∀ {v : Value} {x : V}, Rep C w v x → Rep C' w' v x
  | _, _, .int k n => .int k n
  | _, _, .bool b => .bool b
  | _, _, .str s => .str s
  | _, _, .agg h => .agg (RepL.mono E h)
  | _, _, .tup h => .tup (RepL.mono E h)
  | _, _, .psl0 a c l s => .psl0 a c l s
  | _, _, .psl (l := l) (b := b) vals hl hn hb hlen hcap hc hr => by
    by_cases h : C'.lv l
    · have e := E.reg l b hn h hb
      exact .psl vals h (Nat.lt_of_lt_of_le hn E.nx) e.1 hlen hcap (fun i row hi => ⟨(hc i row hi).1, fun j v hj => by rw [cell_of_block e.2]; exact (hc i row hi).2 j v hj⟩)
        (fun i row hi => RepL.mono E (hr i row hi))
    · exact .psld _ h (Nat.lt_of_lt_of_le hn E.nx)
  | _, _, .psld v hl hn => .psld v (fun h => hl (E.lv _ hn h)) (Nat.lt_of_lt_of_le hn E.nx)
  | _, _, .hsl (u := u) hu h => .hsl (Nat.lt_of_lt_of_le hu E.nx) (fun L' hL' => by
    obtain ⟨L, hL, hor⟩ := E.loc u L' hu hL'
    have := h L hL
    rcases hor with rfl | hlt
    · exact this
    · exact ⟨by omega, fun he => by omega⟩)
  | _, _, .nilsl => .nilsl
  | _, _, .ptr (u := u) hu h => .ptr (Nat.lt_of_lt_of_le hu E.nx) (fun L' hL' => by
    obtain ⟨L, hL, hor⟩ := E.loc u L' hu hL'
    have := h L hL
    rcases hor with rfl | hlt
    · exact this
    · exact ⟨by omega, fun he => by omega⟩)
  | _, _, .pptr (l := l) (b := b) vals hl hn hb hc hr => by
    by_cases h : C'.lv l
    · have e := E.reg l b hn h hb
      exact .pptr vals h (Nat.lt_of_lt_of_le hn E.nx) e.1 (fun i row hi => ⟨(hc i row hi).1, fun j v hj => by rw [cell_of_block e.2]; exact (hc i row hi).2 j v hj⟩)
        (fun i row hi => RepL.mono E (hr i row hi))
    · exact .pptrd _ h (Nat.lt_of_lt_of_le hn E.nx)
  | _, _, .pptrd v hl hn => .pptrd v (fun h => hl (E.lv _ hn h)) (Nat.lt_of_lt_of_le hn E.nx)
  | _, _, .nilp => .nilp
  | _, _, .fn f => .fn f
  | _, _, .junk v => .junk v
theorem RepL.mono {C C' : Ctx} {w w' : World} (E : Ext C C' w w') : ∀ {vs : List Value} {xs : List V}, RepL C w vs xs → RepL C' w' vs xs
  | _, _, .nil => .nil
  | _, _, .cons h t => .cons (Rep.mono E h) (RepL.mono E t)
end

theorem Ext.refl (C : Ctx) (w : World) : Ext C C w w :=
  ⟨Nat.le_refl _, fun _ L _ h => ⟨L, h, .inl rfl⟩, fun _ _ h => h, fun _ _ _ _ h => ⟨h, rfl⟩⟩

theorem Ext.trans {C C1 C2 : Ctx} {w w1 w2 : World} (E : Ext C C1 w w1) (F : Ext C1 C2 w1 w2) : Ext C C2 w w2 :=
  ⟨Nat.le_trans E.nx F.nx, fun u L' hu hL' => by
      obtain ⟨L1, h1, o1⟩ := F.loc u L' (Nat.lt_of_lt_of_le hu E.nx) hL'
      obtain ⟨L, h, o⟩ := E.loc u L1 hu h1
      refine ⟨L, h, ?_⟩
      rcases o with rfl | o <;> rcases o1 with rfl | o1
      · exact .inl rfl
      · exact .inr o1
      · exact .inr o
      · exact .inr (by omega),
    fun l hl h => E.lv l hl (F.lv l (Nat.lt_of_lt_of_le hl E.nx) h),
    fun l b hl h hb => by
      have h1 := F.lv l (Nat.lt_of_lt_of_le hl E.nx) h
      have a := E.reg l b hl h1 hb
      have c := F.reg l b (Nat.lt_of_lt_of_le hl E.nx) h a.1
      exact ⟨c.1, c.2.trans a.2⟩⟩

theorem RepL.length {C : Ctx} {w : World} : ∀ {vs : List Value} {xs : List V}, RepL C w vs xs → vs.length = xs.length
  | _, _, .nil => rfl
  | _, _, .cons _ t => by simp [t.length]

theorem RepL.get {C : Ctx} {w : World} : ∀ {vs : List Value} {xs : List V}, RepL C w vs xs → ∀ (i : Nat) (x : V), xs[i]? = some x → ∃ v, vs[i]? = some v ∧ Rep C w v x
  | _, _, .nil, i, x, h => by simp at h
  | _, _, .cons (v := v) hv t, 0, x, h => by simp at h; subst h; exact ⟨v, by simp, hv⟩
  | _, _, .cons hv t, i + 1, x, h => by simpa using t.get i x (by simpa using h)

theorem RepL.append {C : Ctx} {w : World} : ∀ {vs : List Value} {xs : List V} {us : List Value} {ys : List V}, RepL C w vs xs → RepL C w us ys → RepL C w (vs ++ us) (xs ++ ys)
  | _, _, _, _, .nil, h => h
  | _, _, _, _, .cons hv t, h => .cons hv (t.append h)

theorem RepL.drop {C : Ctx} {w : World} : ∀ {vs : List Value} {xs : List V}, RepL C w vs xs → ∀ n, RepL C w (vs.drop n) (xs.drop n)
  | _, _, .nil, n => by simpa using RepL.nil
  | _, _, .cons hv t, 0 => .cons hv t
  | _, _, .cons hv t, n + 1 => by simpa using t.drop n

theorem RepL.take {C : Ctx} {w : World} : ∀ {vs : List Value} {xs : List V}, RepL C w vs xs → ∀ n, RepL C w (vs.take n) (xs.take n)
  | _, _, .nil, n => by simpa using RepL.nil
  | _, _, .cons hv t, 0 => by simpa using RepL.nil
  | _, _, .cons hv t, n + 1 => by simpa using RepL.cons hv (t.take n)

theorem RepL.set {C : Ctx} {w : World} : ∀ {vs : List Value} {xs : List V}, RepL C w vs xs → ∀ n v x, Rep C w v x → RepL C w (vs.set n v) (xs.set n x)
  | _, _, .nil, n, _, _, _ => by simpa using RepL.nil
  | _, _, .cons hv t, 0, _, _, h => by simpa using RepL.cons h t
  | _, _, .cons hv t, n + 1, v, x, h => by simpa using RepL.cons hv (t.set n v x h)

end Go.Abs
