/-
  Values that owe a proof, once for both kinds of regions; regions that draw their order and only read.
-/
import Derived.Test.YtiecdekmiabmkaaAbsG
import Derived.Deep.Quiet
set_option linter.unusedVariables false
set_option linter.unusedSimpArgs false
namespace Go.Abs

/-- The operation yields what is represented by x, in every world that agrees with this one. -/
def OpVal (P : Program) (s : St) (o : Op) (x : V) : Prop :=
  ∀ C w a, StRep C w a s → ∀ (d : Option Nat) (ty : Nat) (pos : String) (af : Array Edge) (gu : Option (Nat × Bool)), ∃ v, (∀ w', Agree w w' → (execOp a.eval ⟨d, o, ty, pos, af, gu⟩).run P w' = .ok (.value v) w') ∧ Rep C w v x

section
variable {P : Program} {T : List TI} {s : St} {ops : Array Oper} {d : Option Nat} {ty : Nat} {pos : String} {af : Array Edge} {gu : Option (Nat × Bool)} {r : List Oper} {K : St → Prop} {s1 : St}

theorem agree_ext {C : Ctx} {w w' : World} {h : List (Nat × HB)} (hs : HSt C w h) (A : Agree w w') : Ext C C w w' :=
  ⟨Nat.le_refl _, fun _ L _ h => ⟨L, h, .inl rfl⟩, fun _ _ h => h, fun l b _ hl hb => ⟨hb, A.2 b (hs.regs l b hl hb)⟩⟩

theorem agree_rep {C : Ctx} {w w' : World} {a : Act} (hs : StRep C w a s) (A : Agree w w') : StRep C w' a s := by
  have E := agree_ext hs.heap A
  refine ⟨hs.defers, hs.size, hs.nx, fun i => (hs.env i).mono E, ⟨hs.heap.dom, fun u hb hu => ?_, hs.heap.lt, hs.heap.inj, hs.heap.own, fun l b h1 h2 => Nat.lt_of_lt_of_le (hs.heap.regs l b h1 h2) A.1, hs.heap.lvs, hs.heap.rdis, hs.heap.zero, hs.heap.two⟩, hs.lv⟩
  obtain ⟨L, e1, e2, e3, e4⟩ := hs.heap.ent u hb hu
  exact ⟨L, e1, e2, e3, e4.mono E (fun b hb => A.2 b (blk_lt e4 hb))⟩

theorem agree_fr {C : Ctx} {w w' : World} (A : Agree w w') : Fr C C w w' :=
  ⟨A.1, fun b hb _ => A.2 b hb, fun _ h => .inl h, fun _ h => h, fun _ h => .inl h, A.os, A.out, fun _ _ L h => ⟨L, h, .inl rfl⟩⟩

/-- In a region of a set order. -/
theorem sv {o : Op} {x : V} (hg : gd ops.toList s gu = some true) (hx : OpVal P s o x) (hp : s.put d x = some s1) (h : AOps P ops r s1 K) : AOps P ops (⟨d, o, ty, pos, af, gu⟩ :: r) s K :=
  s_val hg (fun C w a hs => by
    obtain ⟨v, h1, h2⟩ := hx C w a hs d ty pos af gu
    exact ⟨v, h1 w (Agree.refl w), h2⟩) hp h

/-! ### The values -/
theorem ov_step {o : Op} {x : V} (hT : TabOK P T) (h : pstep T s o = some x) : OpVal P s o x := fun C w a hs d ty pos af gu =>
  pstep_sound (o := ⟨d, o, ty, pos, af, gu⟩) hT hs h

theorem ov_add {t t' : Nat} {x y : Operand} {a b : Int} (hT : TabOK P T) (hx : ev s x = .int .i64 a) (hy : ev s y = .int .i64 b) (hb : -9223372036854775808 ≤ a + b ∧ a + b ≤ 9223372036854775807) : OpVal P s (.binOp .add t x y t') (.int .i64 (a + b)) :=
  ov_step (T := T) hT (by simp only [pstep, hx, hy, pbin, wrap64_id hb, ↓reduceIte])
theorem ov_sub {t t' : Nat} {x y : Operand} {a b : Int} (hT : TabOK P T) (hx : ev s x = .int .i64 a) (hy : ev s y = .int .i64 b) (hb : -9223372036854775808 ≤ a - b ∧ a - b ≤ 9223372036854775807) : OpVal P s (.binOp .sub t x y t') (.int .i64 (a - b)) :=
  ov_step (T := T) hT (by simp only [pstep, hx, hy, pbin, wrap64_id hb, ↓reduceIte])
theorem ov_mul {t t' : Nat} {x y : Operand} {a b : Int} (hT : TabOK P T) (hx : ev s x = .int .i64 a) (hy : ev s y = .int .i64 b) (hb : -9223372036854775808 ≤ a * b ∧ a * b ≤ 9223372036854775807) : OpVal P s (.binOp .mul t x y t') (.int .i64 (a * b)) :=
  ov_step (T := T) hT (by simp only [pstep, hx, hy, pbin, wrap64_id hb, ↓reduceIte])

/-- A byte of a string. -/
theorem ov_byte {t : Nat} {x i : Operand} {l : List UInt8} {k : IntKind} {n : Int} (hT : TabOK P T) (ht : strT T t = true) (hx : ev s x = .str l) (hi : ev s i = .int k n) (h0 : 0 ≤ n ∧ n < l.length) :
    OpVal P s (.index t x i) (.int .u8 (l.getD n.toNat 0).toNat) := fun C w a hs d ty pos af gu => by
  have hv := hs.ev x; rw [hx] at hv
  have hv2 := hs.ev i; rw [hi] at hv2
  generalize e1 : a.eval x = v at hv
  generalize e2 : a.eval i = v2 at hv2
  cases hv; cases hv2
  refine ⟨.int .u8 (l.getD n.toNat 0).toNat, fun w' _ => ?_, .int _ _⟩
  have hlt : n.toNat < l.length := by omega
  have hg' : (⟨l.toArray⟩ : ByteArray)[n.toNat]? = some (l.getD n.toNat 0) := by
    have e : (⟨l.toArray⟩ : ByteArray).size = l.length := bytes_size l
    rw [getElem?_pos (⟨l.toArray⟩ : ByteArray) n.toNat (by rw [e]; exact hlt)]
    rw [show l.getD n.toNat 0 = l[n.toNat] from by simp [List.getD, List.getElem?_eq_getElem hlt]]
    rfl
  simp [execOp, e1, e2, Instr.index, asIntOf, run_underlying (strT_spec hT ht), h0.1, hg']

/-- The address of an element of a slice that is only read. -/
theorem ov_addr {t e sz l : Nat} {x i : Operand} {rows : List (List V)} {row : List V} {k : IntKind} {n : Int} (hT : TabOK P T) (ht : elemT T t = some (e, sz)) (hx : ev s x = .psl l sz rows) (hl : s.live l = true) (hi : ev s i = .int k n)
    (h0 : 0 ≤ n) (hr : rows[n.toNat]? = some row) : OpVal P s (.indexAddr t x i) (.pptr l sz [row] 0 0) := fun C w a hs d ty pos af gu => by
  have hv := hs.ev x; rw [hx] at hv
  have hv2 := hs.ev i; rw [hi] at hv2
  generalize e1 : a.eval x = v at hv
  generalize e2 : a.eval i = v2 at hv2
  cases hv2
  obtain ⟨hu, te, hte, hsz⟩ := elemT_spec hT ht
  cases hv with
  | psl0 => simp at hr
  | psld _ h1 _ => exact absurd (hs.live hl) h1
  | psl vals h1 h2 h3 h4 hcap h5 h6 =>
    rename_i b off len cap
    have hlt : n.toNat < rows.length := by
      rcases Nat.lt_or_ge n.toNat rows.length with h | h
      · exact h
      · simp [List.getElem?_eq_none h] at hr
    have hin : n < (len : Int) := by omega
    refine ⟨.pointer (some ⟨b, off + n.toNat * sz + 0 * sz + 0, none⟩), fun w' _ => ?_, .pptr (o := off + n.toNat * sz) (fun _ => vals n.toNat) h1 h2 h3 (fun j r' hj => ?_) (fun j r' hj => ?_)⟩
    · simp [execOp, e1, e2, Instr.indexAt, asIntOf, run_underlying hu, h0, hin, hT.size hte, hsz, addr_add]
    · cases j with
      | zero =>
        simp at hj; subst hj
        refine ⟨(h5 _ _ hr).1, fun j v hj => ?_⟩
        rw [Nat.zero_mul, Nat.add_zero]
        exact (h5 _ _ hr).2 j v hj
      | succ j => simp at hj
    · cases j with
      | zero => simp at hj; subst hj; exact h6 _ _ hr
      | succ j => simp at hj

theorem hsl_spec {C : Ctx} {w : World} {h : List (Nat × HB)} (hs : HSt C w h) {u i len : Nat} {v : Value} (hr : Rep C w v (.hsl u i len)) {hb : HB} (hu : hget h u = some hb) (hn : i + len = hb.rows.length) :
    ∃ L, C.loc u = some L ∧ L.sz = hb.sz ∧ L.n = hb.rows.length ∧ Blk C w L hb.rows ∧ HSL L i len v := by
  obtain ⟨L, h1, h2, h3, h4⟩ := hs.ent u hb hu
  cases hr with
  | hsl _ h => exact ⟨L, h1, h2, h3, h4, (h L h1).2 (by omega)⟩

/-- The length of a slice of the call's own. -/
theorem ov_hlen {t u i len : Nat} {x : Operand} {hb : HB} {e sz : Nat} (hT : TabOK P T) (ht : elemT T t = some (e, sz)) (hx : ev s x = .hsl u i len) (hu : hget s.heap u = some hb) (hn : i + len = hb.rows.length) :
    OpVal P s (.call ⟨.builtin .len, ⟨[x]⟩, ⟨[t]⟩⟩) (.int .i64 len) := fun C w a hs d ty pos af gu => by
  have hv := hs.ev x; rw [hx] at hv
  obtain ⟨L, h1, h2, h3, h4, h5⟩ := hsl_spec hs.heap hv hu hn
  obtain ⟨hut, te, hte, hsz⟩ := elemT_spec hT ht
  refine ⟨.int .i64 len, fun w' _ => ?_, .int _ _⟩
  unfold HSL at h5
  cases hb' : L.blk with
  | some b =>
    rw [hb'] at h5; simp only at h5
    simp [execOp, resolve, invoke, builtin, Builtin.len_, h5, run_underlying hut, goInt]
  | none =>
    rw [hb'] at h5; simp only at h5
    have : len = 0 := by
      unfold Blk at h4; rw [hb'] at h4; rw [h4.1] at hn; simp at hn; exact hn.2
    subst this
    simp [execOp, resolve, invoke, builtin, Builtin.len_, h5, run_underlying hut, goInt]

/-- The address of an element of a slice of the call's own. -/
theorem ov_haddr {t u i0 len : Nat} {x i : Operand} {hb : HB} {e : Nat} {k : IntKind} {n : Int} (hT : TabOK P T) (ht : elemT T t = some (e, hb.sz)) (hx : ev s x = .hsl u i0 len) (hu : hget s.heap u = some hb) (hn : i0 + len = hb.rows.length) (hi : ev s i = .int k n)
    (h0 : 0 ≤ n ∧ n < len) : OpVal P s (.indexAddr t x i) (.ptr u hb.rows.length (i0 + n.toNat) 0) := fun C w a hs d ty pos af gu => by
  have hv := hs.ev x; rw [hx] at hv
  have hv2 := hs.ev i; rw [hi] at hv2
  generalize e2 : a.eval i = v2 at hv2
  cases hv2
  obtain ⟨L, h1, h2, h3, h4, h5⟩ := hsl_spec hs.heap hv hu hn
  obtain ⟨hut, te, hte, hsz⟩ := elemT_spec hT ht
  unfold HSL at h5
  cases hb' : L.blk with
  | some b =>
    rw [hb'] at h5; simp only at h5
    refine ⟨.pointer (some ⟨b, (i0 + n.toNat) * hb.sz + 0, none⟩), fun w' _ => ?_, .ptr (by rw [hs.nx]; have := hs.heap.lt u L h1; rw [hs.nx] at this; exact this) fun L' hL' => ?_⟩
    · simp [execOp, h5, e2, Instr.indexAt, asIntOf, run_underlying hut, h0, hT.size hte, hsz, addr_add, h2, Nat.add_mul]
    · rw [h1] at hL'; simp only [Option.some.injEq] at hL'; subst hL'
      exact ⟨by omega, fun _ => ⟨b, hb', by rw [h2]⟩⟩
  | none =>
    unfold Blk at h4; rw [hb'] at h4
    rw [h4.1] at hn; simp at hn; omega

/-! ### Regions that draw -/
def AQ (P : Program) (ops : Array Oper) (l : List Oper) (s : St) (K : St → Prop) : Prop :=
  ∀ C w a, StRep C w a s → ∀ Qf : Act → Prop, (∀ a' s', StRep C w a' s' → K s' → Qf a') → wpQuiet P ops (Agree w) Qf l a

theorem aq_nil (h : K s) : AQ P ops [] s K := fun C w a hs Qf hq => hq a s hs h

theorem qv {o : Op} {x : V} (hg : gd ops.toList s gu = some true) (hx : OpVal P s o x) (hp : s.put d x = some s1) (h : AQ P ops r s1 K) : AQ P ops (⟨d, o, ty, pos, af, gu⟩ :: r) s K := by
  intro C w a hs Qf hq
  obtain ⟨v, h1, h2⟩ := hx C w a hs d ty pos af gu
  unfold wpQuiet
  rw [if_pos (gd_spec hs hg)]
  refine ⟨v, fun w' hw => ?_, h C w _ (put_rep hs h2 hp) Qf hq⟩
  unfold Oper.quietAt
  rw [h1 w' hw]
  exact ⟨rfl, rfl⟩

def qstep (T : List TI) (l : List Oper) (s : St) (o : Oper) : Option St :=
  match gd l s o.guard with
  | some true => (match pstep T s o.op with
    | some v => s.put o.dst v
    | none => none)
  | some false => s.put o.dst (.tup [])
  | none => none

theorem qx {o : Oper} {s' : St} (hT : TabOK P T) (hx : qstep T ops.toList s o = some s') (h : AQ P ops r s' K) : AQ P ops (o :: r) s K := by
  unfold qstep at hx
  split at hx
  · rename_i hg
    split at hx
    · rename_i v hv
      obtain ⟨d, op, ty, pos, af, gu⟩ := o
      exact qv hg (ov_step hT hv) hx h
    · simp at hx
  · rename_i hg
    intro C w a hs Qf hq
    unfold wpQuiet
    rw [if_neg (by rw [gd_spec hs hg]; simp)]
    exact h C w _ (put_rep hs (.tup .nil) hx) Qf hq
  · simp at hx

theorem q_split {o : Op} {j : Nat} {want : Bool} {g : Nat} {b : Bool} {s2 : St} (hd : (ops.toList[j]?).bind (·.dst) = some g) (hv : eget s.env g = .bool b) (hp : (s.ovr g (.bool (!want))).put d (.tup []) = some s2)
    (ht : b = want → AQ P ops (⟨d, o, ty, pos, af, none⟩ :: r) (s.ovr g (.bool want)) K) (hf : b = (!want) → AQ P ops r s2 K) :
    AQ P ops (⟨d, o, ty, pos, af, some (j, want)⟩ :: r) s K := by
  intro C w a hs Qf hq
  by_cases hb : b = want
  · subst hb
    have h1 := ht rfl C w a (ovr_rep hs hv) Qf hq
    unfold wpQuiet at h1 ⊢
    rw [if_pos (by simp [Region.wanted])] at h1
    rw [if_pos ((gd_spec (ops := ops) hs (gd_at hd hv)).trans (by simp))]
    exact h1
  · have hb' : b = !want := by cases b <;> cases want <;> simp_all
    subst hb'
    have hs1 := ovr_rep hs hv
    have h1 := hf rfl C w _ (put_rep hs1 (.tup .nil) hp) Qf hq
    unfold wpQuiet
    rw [if_neg (by rw [gd_spec (ops := ops) hs (gd_at hd hv)]; simp)]
    exact h1
theorem q_splitT {o : Op} {j : Nat} {g : Nat} {p : Prop} [Decidable p] {s2 : St} (hd : (ops.toList[j]?).bind (·.dst) = some g) (hv : eget s.env g = .bool (decide p)) (hp : (s.ovr g (.bool false)).put d (.tup []) = some s2)
    (ht : p → AQ P ops (⟨d, o, ty, pos, af, none⟩ :: r) (s.ovr g (.bool true)) K) (hf : ¬p → AQ P ops r s2 K) : AQ P ops (⟨d, o, ty, pos, af, some (j, true)⟩ :: r) s K :=
  q_split hd hv hp (fun h => ht (by simpa using h)) (fun h => hf (by simpa using h))
theorem q_splitF {o : Op} {j : Nat} {g : Nat} {p : Prop} [Decidable p] {s2 : St} (hd : (ops.toList[j]?).bind (·.dst) = some g) (hv : eget s.env g = .bool (decide p)) (hp : (s.ovr g (.bool true)).put d (.tup []) = some s2)
    (ht : ¬p → AQ P ops (⟨d, o, ty, pos, af, none⟩ :: r) (s.ovr g (.bool false)) K) (hf : p → AQ P ops r s2 K) : AQ P ops (⟨d, o, ty, pos, af, some (j, false)⟩ :: r) s K :=
  q_split hd hv hp (fun h => ht (by simpa using h)) (fun h => hf (by simpa using h))
theorem q_splitTn {o : Op} {j : Nat} {g : Nat} {p : Prop} [Decidable p] {s2 : St} (hd : (ops.toList[j]?).bind (·.dst) = some g) (hv : eget s.env g = .bool (!decide p)) (hp : (s.ovr g (.bool false)).put d (.tup []) = some s2)
    (ht : ¬p → AQ P ops (⟨d, o, ty, pos, af, none⟩ :: r) (s.ovr g (.bool true)) K) (hf : p → AQ P ops r s2 K) : AQ P ops (⟨d, o, ty, pos, af, some (j, true)⟩ :: r) s K :=
  q_split hd hv hp (fun h => ht (by simpa using h)) (fun h => hf (by simpa using h))
theorem q_splitFn {o : Op} {j : Nat} {g : Nat} {p : Prop} [Decidable p] {s2 : St} (hd : (ops.toList[j]?).bind (·.dst) = some g) (hv : eget s.env g = .bool (!decide p)) (hp : (s.ovr g (.bool true)).put d (.tup []) = some s2)
    (ht : p → AQ P ops (⟨d, o, ty, pos, af, none⟩ :: r) (s.ovr g (.bool false)) K) (hf : ¬p → AQ P ops r s2 K) : AQ P ops (⟨d, o, ty, pos, af, some (j, false)⟩ :: r) s K :=
  q_split hd hv hp (fun h => ht (by simpa using h)) (fun h => hf (by simpa using h))

mutual
/-- The one machine value that a flat value stands for. -/
def V.conc : V → Option Value
  | .int k n => some (.int k n)
  | .bool b => some (.bool b)
  | .str s => some (.string ⟨s.toArray⟩)
  | .agg cs => match V.concL cs with | some vs => some (.agg ⟨vs⟩) | none => none
  | .tup cs => match V.concL cs with | some vs => some (.tuple ⟨vs⟩) | none => none
  | _ => none
def V.concL : List V → Option (List Value)
  | [] => some []
  | x :: r => match V.conc x, V.concL r with | some v, some vs => some (v :: vs) | _, _ => none
end

mutual
theorem conc_eq {C : Ctx} {w : World} : ∀ {v u : Value} {x : V}, Rep C w v x → x.conc = some u → v = u
  | _, u, _, .int k n, h => by simp [V.conc] at h; exact h
  | _, u, _, .bool b, h => by simp [V.conc] at h; exact h
  | _, u, _, .str s, h => by simp [V.conc] at h; exact h
  | _, u, .agg cs, .agg hl, h => by
    simp only [V.conc] at h
    split at h
    · rename_i us hu; simp at h; rw [← h, concL_eq hl hu]
    · simp at h
  | _, u, .tup cs, .tup hl, h => by
    simp only [V.conc] at h
    split at h
    · rename_i us hu; simp at h; rw [← h, concL_eq hl hu]
    · simp at h
  | _, _, .psl .., _, h => by simp [V.conc] at h
  | _, _, .hsl .., _, h => by simp [V.conc] at h
  | _, _, .nilsl, _, h => by simp [V.conc] at h
  | _, _, .ptr .., _, h => by simp [V.conc] at h
  | _, _, .pptr .., _, h => by simp [V.conc] at h
  | _, _, .nilp, _, h => by simp [V.conc] at h
  | _, _, .fn _, _, h => by simp [V.conc] at h
  | _, _, .junk, _, h => by simp [V.conc] at h
theorem concL_eq {C : Ctx} {w : World} : ∀ {vs us : List Value} {xs : List V}, RepL C w vs xs → V.concL xs = some us → vs = us
  | _, us, _, .nil, h => by simp [V.concL] at h; exact h.symm
  | _, us, _, .cons hv ht, h => by
    simp only [V.concL] at h
    split at h
    · rename_i v vs h1 h2; simp at h; rw [← h, conc_eq hv h1, concL_eq ht h2]
    · simp at h
end

mutual
theorem conc_rep (C : Ctx) (w : World) : ∀ {u : Value} (x : V), x.conc = some u → Rep C w u x
  | _, .int k n, h => by simp [V.conc] at h; subst h; exact .int _ _
  | _, .bool b, h => by simp [V.conc] at h; subst h; exact .bool _
  | _, .str s, h => by simp [V.conc] at h; subst h; exact .str _
  | _, .agg cs, h => by
    simp only [V.conc] at h
    split at h
    · rename_i us hu; simp at h; rw [← h]; exact .agg (concL_rep C w cs hu)
    · simp at h
  | _, .tup cs, h => by
    simp only [V.conc] at h
    split at h
    · rename_i us hu; simp at h; rw [← h]; exact .tup (concL_rep C w cs hu)
    · simp at h
  | _, .psl .., h => by simp [V.conc] at h
  | _, .hsl .., h => by simp [V.conc] at h
  | _, .nilsl, h => by simp [V.conc] at h
  | _, .ptr .., h => by simp [V.conc] at h
  | _, .pptr .., h => by simp [V.conc] at h
  | _, .nilp, h => by simp [V.conc] at h
  | _, .fn _, h => by simp [V.conc] at h
  | _, .junk, h => by simp [V.conc] at h
theorem concL_rep (C : Ctx) (w : World) : ∀ {us : List Value} (xs : List V), V.concL xs = some us → RepL C w us xs
  | _, [], h => by simp [V.concL] at h; subst h; exact .nil
  | _, x :: xs, h => by
    simp only [V.concL] at h
    split at h
    · rename_i v vs h1 h2; simp at h; rw [← h]; exact .cons (conc_rep C w x h1) (concL_rep C w xs h2)
    · simp at h
end

theorem callee_args {C : Ctx} {w : World} {a : Act} {args : List Operand} {args' : List V} (hs : StRep C w a s) (hv : V.rlL (f0 s) (evL s args) = args') : RepL (C.callee (· < w.heap.size)) w (args.map a.eval) args' := by
  rw [← hv]
  refine RepL.rl (C := C) ⟨fun l _ => ?_, fun l _ hl => ?_, fun l b _ hl hb => ⟨?_, rfl⟩⟩ (evL_rep hs args)
  · show f0 s l < 3
    unfold f0; cases s.live l <;> decide
  · cases hlv : s.live l
    · simp only [f0, hlv, cond_false] at hl
      exact absurd hl (by show ¬ 2 ≤ 1; omega)
    · exact hs.live hlv
  · cases hlv : s.live l
    · simp only [f0, hlv, cond_false] at hl
      exact absurd hl (by show ¬ 2 ≤ 1; omega)
    · exact ⟨by simp [f0, hlv], hs.heap.regs l b (hs.live hlv) hb⟩

/-- A call in a region that draws: its result is a flat value. -/
theorem q_call {f : FuncId} {args : List Operand} {args' : List V} {x : V} {u : Value} {tys : Array TypeId}
    (hc : FC P f args' [] 3 (fun y _ => y = x)) (hg : gd ops.toList s gu = some true) (hv : V.rlL (f0 s) (evL s args) = args') (hx : x.conc = some u) (hp : s.put d x = some s1) (h : AQ P ops r s1 K) :
    AQ P ops (⟨d, .call ⟨.value (.func f), ⟨args⟩, tys⟩, ty, pos, af, gu⟩ :: r) s K := by
  intro C w a hs Qf hq
  obtain ⟨⟨fn, h1, h2, h3⟩, hcall⟩ := hc
  unfold wpQuiet
  rw [if_pos (gd_spec hs hg)]
  refine ⟨u, fun w' hw => ?_, h C w _ (put_rep hs (conc_rep C w x hx) hp) Qf hq⟩
  have hs' := agree_rep hs hw
  have e : (execOp a.eval ⟨d, .call ⟨.value (.func f), ⟨args⟩, tys⟩, ty, pos, af, gu⟩).run P w' = .ok (.enter f ⟨args.map a.eval⟩) w' := by
    simp only [execOp, resolve, Act.eval, Deferred.ofValue, Sem.run_bind, Sem.run_pure, Result.andThen_ok, invoke, callFunc, run_program, h1, h2, h3]
    simp
  unfold Oper.quietAt
  rw [e]
  refine ⟨rfl, (hcall (C.callee (· < w'.heap.size)) w' ⟨args.map a.eval⟩ rfl (callee_st C w' fun b h => h) (callee_args hs' hv)).mono ?_⟩
  rintro e w'' ⟨v, C2, y, h2, rfl, e2, e3, e4, rfl⟩
  exact ⟨by rw [conc_eq e3 hx], hw.trans (callee_agree e4)⟩

/-- A REGION THAT DRAWS ITS ORDER, all of whose operations only read. -/
theorem at_draw {id : Nat} {l : List Oper} {K : Exit → St → Prop} (hm : P.follows .mixedOrders = true) (hB : Region.lexB .any ⟨l⟩ = true) (h : AQ P ⟨l⟩ l s (fun s' => K .normal s')) : AT P (.region id ⟨l⟩ true) s K := by
  intro C w a hs
  refine wp_region_quiet hm hB (C := Agree w) ⟨Nat.le_refl _, fun _ _ => rfl, rfl, rfl⟩ ?_
  refine h C w a hs _ (fun a' s' h1 h2 w' hw => ?_)
  exact ⟨C, s', agree_rep h1 hw, agree_fr hw, h2⟩

end
end Go.Abs
