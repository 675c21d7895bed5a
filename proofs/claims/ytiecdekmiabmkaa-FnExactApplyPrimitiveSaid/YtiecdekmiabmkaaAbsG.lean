/-
  Operations that owe a proof: an index, a length, a sum; the shapes in which a walk uses the rules.
-/
import Derived.Test.YtiecdekmiabmkaaAbsF
set_option linter.unusedVariables false
set_option linter.unusedSimpArgs false
namespace Go.Abs

section
variable {P : Program} {T : List TI} {s : St} {ops : Array Oper} {d : Option Nat} {ty : Nat} {pos : String} {af : Array Edge} {gu : Option (Nat × Bool)} {r : List Oper} {K : St → Prop} {s1 : St}

/-- Into a function's body, its numbers written out. -/
theorem fc_body {f : FuncId} {fn : Func} {c : Code} {args : List V} {h : List (Nat × HB)} {nx n : Nat} {rs : List ResultVar} {R : V → List (Nat × HB) → Prop} (hT : TabOK P T) (hf : P.funcs[f]? = some fn) (hb : fn.body = some c)
    (hn : fn.ntmps = n) (hr : fn.results.toList = rs) (hnm : (fn.name == "runtime.NumGoroutine") = false) (hlen : Nat.ble args.length n = true)
    (hat : AT P c ⟨envOf 0 args, h, nx, n, []⟩ (retK T rs R)) : FC P f args h nx R := by
  subst hn; subst hr
  exact fc_intro hT hf hb hnm (Nat.le_of_ble_eq_true hlen) hat

theorem wrap64_id {x : Int} (h : -9223372036854775808 ≤ x ∧ x ≤ 9223372036854775807) : IntKind.i64.wrap x = x := IntWalk.i64_in _ h

theorem s_val {o : Op} {x : V} (hg : gd ops.toList s gu = some true)
    (hx : ∀ C w a, StRep C w a s → ∃ v, (execOp a.eval ⟨d, o, ty, pos, af, gu⟩).run P w = .ok (.value v) w ∧ Rep C w v x) (hp : s.put d x = some s1) (h : AOps P ops r s1 K) :
    AOps P ops (⟨d, o, ty, pos, af, gu⟩ :: r) s K :=
  aops_value hg fun C w a hs => by
    obtain ⟨v, h1, h2⟩ := hx C w a hs
    exact ⟨v, w, C, s1, h1, put_rep hs h2 hp, Fr.refl _ _, h⟩

/-- A sum that does not wrap. -/
theorem s_add {t t' : Nat} {x y : Operand} {a b : Int} (hT : TabOK P T) (hg : gd ops.toList s gu = some true) (hx : ev s x = .int .i64 a) (hy : ev s y = .int .i64 b)
    (hb : -9223372036854775808 ≤ a + b ∧ a + b ≤ 9223372036854775807) (hp : s.put d (.int .i64 (a + b)) = some s1) (h : AOps P ops r s1 K) :
    AOps P ops (⟨d, .binOp .add t x y t', ty, pos, af, gu⟩ :: r) s K :=
  aops_pure (T := T) hT hg (x := .int .i64 (a + b)) (by simp only [pstep, hx, hy, pbin, wrap64_id hb, ↓reduceIte]) hp h

theorem s_sub {t t' : Nat} {x y : Operand} {a b : Int} (hT : TabOK P T) (hg : gd ops.toList s gu = some true) (hx : ev s x = .int .i64 a) (hy : ev s y = .int .i64 b)
    (hb : -9223372036854775808 ≤ a - b ∧ a - b ≤ 9223372036854775807) (hp : s.put d (.int .i64 (a - b)) = some s1) (h : AOps P ops r s1 K) :
    AOps P ops (⟨d, .binOp .sub t x y t', ty, pos, af, gu⟩ :: r) s K :=
  aops_pure (T := T) hT hg (x := .int .i64 (a - b)) (by simp only [pstep, hx, hy, pbin, wrap64_id hb, ↓reduceIte]) hp h

theorem s_mul {t t' : Nat} {x y : Operand} {a b : Int} (hT : TabOK P T) (hg : gd ops.toList s gu = some true) (hx : ev s x = .int .i64 a) (hy : ev s y = .int .i64 b)
    (hb : -9223372036854775808 ≤ a * b ∧ a * b ≤ 9223372036854775807) (hp : s.put d (.int .i64 (a * b)) = some s1) (h : AOps P ops r s1 K) :
    AOps P ops (⟨d, .binOp .mul t x y t', ty, pos, af, gu⟩ :: r) s K :=
  aops_pure (T := T) hT hg (x := .int .i64 (a * b)) (by simp only [pstep, hx, hy, pbin, wrap64_id hb, ↓reduceIte]) hp h

def strT (T : List TI) (t : Nat) : Bool := match T[t]? with | some ti => (match ti.kind with | .string => true | _ => false) | none => false
theorem strT_spec {t : Nat} (hT : TabOK P T) (h : strT T t = true) : P.underlying t = some .string := by
  unfold strT at h
  split at h
  · rename_i ti ht
    split at h
    · rename_i hk; exact hT.string ht hk
    · simp at h
  · simp at h

/-- A byte of a string. -/
theorem s_index {t : Nat} {x i : Operand} {l : List UInt8} {k : IntKind} {n : Int} {b : UInt8} (hT : TabOK P T) (hg : gd ops.toList s gu = some true) (ht : strT T t = true) (hx : ev s x = .str l) (hi : ev s i = .int k n)
    (h0 : 0 ≤ n) (hb : l[n.toNat]? = some b) (hp : s.put d (.int .u8 b.toNat) = some s1) (h : AOps P ops r s1 K) :
    AOps P ops (⟨d, .index t x i, ty, pos, af, gu⟩ :: r) s K :=
  s_val hg (fun C w a hs => by
    have hv := hs.ev x; rw [hx] at hv
    have hv2 := hs.ev i; rw [hi] at hv2
    generalize e1 : a.eval x = v at hv
    generalize e2 : a.eval i = v2 at hv2
    cases hv; cases hv2
    refine ⟨.int .u8 b.toNat, ?_, .int _ _⟩
    have hg' : (⟨l.toArray⟩ : ByteArray)[n.toNat]? = some b := by
      have hlt : n.toNat < l.length := by
        rcases Nat.lt_or_ge n.toNat l.length with h | h
        · exact h
        · simp [List.getElem?_eq_none h] at hb
      have e : (⟨l.toArray⟩ : ByteArray).size = l.length := bytes_size l
      rw [getElem?_pos (⟨l.toArray⟩ : ByteArray) n.toNat (by rw [e]; exact hlt)]
      rw [List.getElem?_eq_getElem hlt] at hb
      simp only [Option.some.injEq] at hb
      subst hb
      rfl
    simp [execOp, e1, e2, Instr.index, asIntOf, run_underlying (strT_spec hT ht), h0, hg']) hp h

/-- The element type of a slice, and its size. -/
def elemT (T : List TI) (t : Nat) : Option (Nat × Nat) := match T[t]? with
  | some ti => (match ti.kind with
    | .slice e => (match T[e]? with | some ⟨_, size, _, _, _⟩ => some (e, size) | none => none)
    | _ => none)
  | none => none
theorem elemT_spec {t e sz : Nat} (hT : TabOK P T) (h : elemT T t = some (e, sz)) : P.underlying t = some (.slice e) ∧ ∃ te, T[e]? = some te ∧ te.size = sz := by
  unfold elemT at h
  split at h
  · rename_i ti ht
    split at h
    · rename_i e' hk
      split at h
      · rename_i kd size bts zero ag hte
        simp only [Option.some.injEq, Prod.mk.injEq] at h
        obtain ⟨rfl, rfl⟩ := h
        exact ⟨hT.slice ht hk, _, hte, rfl⟩
      · simp at h
    · simp at h
  · simp at h

/-- The address of an element of a slice that is only read. -/
theorem s_addr {t e sz l : Nat} {x i : Operand} {rows : List (List V)} {row : List V} {k : IntKind} {n : Int} (hT : TabOK P T) (hg : gd ops.toList s gu = some true) (ht : elemT T t = some (e, sz)) (hx : ev s x = .psl l sz rows) (hl : s.live l = true) (hi : ev s i = .int k n)
    (h0 : 0 ≤ n) (hr : rows[n.toNat]? = some row) (hp : s.put d (.pptr l sz [row] 0 0) = some s1) (h : AOps P ops r s1 K) :
    AOps P ops (⟨d, .indexAddr t x i, ty, pos, af, gu⟩ :: r) s K :=
  s_val hg (fun C w a hs => by
    have hv := hs.ev x; rw [hx] at hv
    have hv2 := hs.ev i; rw [hi] at hv2
    generalize e1 : a.eval x = v at hv
    generalize e2 : a.eval i = v2 at hv2
    cases hv2
    obtain ⟨hu, te, hte, hsz⟩ := elemT_spec hT ht
    cases hv with
    | psl0 => simp at hr
    | psld _ h1 _ => exact absurd (hs.live hl) h1
    | psl vals h1 h2 h3 h4 h5 h6 =>
      rename_i b off len cap
      have hlt : n.toNat < rows.length := by
        rcases Nat.lt_or_ge n.toNat rows.length with h | h
        · exact h
        · simp [List.getElem?_eq_none h] at hr
      have hin : n < (len : Int) := by omega
      refine ⟨.pointer (some ⟨b, off + n.toNat * sz + 0 * sz + 0, none⟩), ?_, .pptr (o := off + n.toNat * sz) (fun _ => vals n.toNat) h1 h2 h3 (fun j r' hj => ?_) (fun j r' hj => ?_)⟩
      · simp [execOp, e1, e2, Instr.indexAt, asIntOf, run_underlying hu, h0, hin, hT.size hte, hsz, addr_add]
      · cases j with
        | zero =>
          simp at hj; subst hj
          refine ⟨(h5 _ _ hr).1, fun j v hj => ?_⟩
          rw [Nat.zero_mul, Nat.add_zero]
          exact (h5 _ _ hr).2 j v hj
        | succ j => simp at hj
      · cases j with
        | zero => simp at hj; subst hj; exact h6 _ _ hr
        | succ j => simp at hj) hp h

def St.ovr : St → Nat → V → St
  | ⟨env, heap, nx, n, lv⟩, d, v => ⟨(d, v) :: env, heap, nx, n, lv⟩

theorem ovr_rep {C : Ctx} {w : World} {a : Act} (hs : StRep C w a s) {d : Nat} {x : V} (h : eget s.env d = x) : StRep C w a (s.ovr d x) := by
  subst h
  cases s with
  | mk env heap nx n lv =>
    refine ⟨hs.defers, hs.size, hs.nx, fun i => ?_, hs.heap, hs.lv⟩
    simp only [St.ovr, eget]
    rw [Bool.cond_eq_ite]
    split
    · rename_i h; rw [Nat.beq_eq] at h; subst h; exact hs.env _
    · exact hs.env i

theorem gd_at {l : List Oper} {j g : Nat} {want b : Bool} (hd : (l[j]?).bind (·.dst) = some g) (hv : eget s.env g = .bool b) : gd l s (some (j, want)) = some (b == want) := by
  unfold gd
  simp only
  rw [hd]
  simp only
  rw [hv]

/-- A guard that is not decided: both ways. -/
theorem s_split {o : Op} {j : Nat} {want : Bool} {g : Nat} {b : Bool} {s2 : St} (hd : (ops.toList[j]?).bind (·.dst) = some g) (hv : eget s.env g = .bool b) (hp : (s.ovr g (.bool (!want))).put d (.tup []) = some s2)
    (ht : b = want → AOps P ops (⟨d, o, ty, pos, af, none⟩ :: r) (s.ovr g (.bool want)) K) (hf : b = (!want) → AOps P ops r s2 K) :
    AOps P ops (⟨d, o, ty, pos, af, some (j, want)⟩ :: r) s K := by
  intro C w a Q hs hq
  by_cases hb : b = want
  · subst hb
    have h1 := ht rfl C w a Q (ovr_rep hs hv) hq
    unfold wpList at h1 ⊢
    rw [if_pos (by simp [Region.wanted])] at h1
    rw [if_pos ((gd_spec (ops := ops) hs (gd_at hd hv)).trans (by simp))]
    exact h1
  · have hb' : b = !want := by cases b <;> cases want <;> simp_all
    subst hb'
    have hs1 := ovr_rep hs hv
    have h1 := hf rfl C w _ Q (put_rep hs1 (.tup .nil) hp) hq
    unfold wpList
    rw [if_neg (by rw [gd_spec (ops := ops) hs (gd_at hd hv)]; simp)]
    exact h1

theorem s_splitT {o : Op} {j : Nat} {g : Nat} {p : Prop} [Decidable p] {s2 : St} (hd : (ops.toList[j]?).bind (·.dst) = some g) (hv : eget s.env g = .bool (decide p)) (hp : (s.ovr g (.bool false)).put d (.tup []) = some s2)
    (ht : p → AOps P ops (⟨d, o, ty, pos, af, none⟩ :: r) (s.ovr g (.bool true)) K) (hf : ¬p → AOps P ops r s2 K) :
    AOps P ops (⟨d, o, ty, pos, af, some (j, true)⟩ :: r) s K :=
  s_split hd hv hp (fun h => ht (by simpa using h)) (fun h => hf (by simpa using h))
theorem s_splitF {o : Op} {j : Nat} {g : Nat} {p : Prop} [Decidable p] {s2 : St} (hd : (ops.toList[j]?).bind (·.dst) = some g) (hv : eget s.env g = .bool (decide p)) (hp : (s.ovr g (.bool true)).put d (.tup []) = some s2)
    (ht : ¬p → AOps P ops (⟨d, o, ty, pos, af, none⟩ :: r) (s.ovr g (.bool false)) K) (hf : p → AOps P ops r s2 K) :
    AOps P ops (⟨d, o, ty, pos, af, some (j, false)⟩ :: r) s K :=
  s_split hd hv hp (fun h => ht (by simpa using h)) (fun h => hf (by simpa using h))
theorem s_splitTn {o : Op} {j : Nat} {g : Nat} {p : Prop} [Decidable p] {s2 : St} (hd : (ops.toList[j]?).bind (·.dst) = some g) (hv : eget s.env g = .bool (!decide p)) (hp : (s.ovr g (.bool false)).put d (.tup []) = some s2)
    (ht : ¬p → AOps P ops (⟨d, o, ty, pos, af, none⟩ :: r) (s.ovr g (.bool true)) K) (hf : p → AOps P ops r s2 K) :
    AOps P ops (⟨d, o, ty, pos, af, some (j, true)⟩ :: r) s K :=
  s_split hd hv hp (fun h => ht (by simpa using h)) (fun h => hf (by simpa using h))
theorem s_splitFn {o : Op} {j : Nat} {g : Nat} {p : Prop} [Decidable p] {s2 : St} (hd : (ops.toList[j]?).bind (·.dst) = some g) (hv : eget s.env g = .bool (!decide p)) (hp : (s.ovr g (.bool true)).put d (.tup []) = some s2)
    (ht : p → AOps P ops (⟨d, o, ty, pos, af, none⟩ :: r) (s.ovr g (.bool false)) K) (hf : ¬p → AOps P ops r s2 K) :
    AOps P ops (⟨d, o, ty, pos, af, some (j, false)⟩ :: r) s K :=
  s_split hd hv hp (fun h => ht (by simpa using h)) (fun h => hf (by simpa using h))

theorem at_ifd {c : Operand} {x y : Code} {p : Prop} [Decidable p] {K : Exit → St → Prop} (hc : ev s c = .bool (decide p)) (ht : p → AT P x s K) (hf : ¬p → AT P y s K) : AT P (.cond c x y) s K :=
  at_cond hc (fun h => ht (by simpa using h)) (fun h => hf (by simpa using h))
theorem at_ifn {c : Operand} {x y : Code} {p : Prop} [Decidable p] {K : Exit → St → Prop} (hc : ev s c = .bool (!decide p)) (ht : ¬p → AT P x s K) (hf : p → AT P y s K) : AT P (.cond c x y) s K :=
  at_cond hc (fun h => ht (by simpa using h)) (fun h => hf (by simpa using h))
/-- The same; behind it the slot is known. -/
theorem at_ift {t : Nat} {x y : Code} {b : Bool} {K : Exit → St → Prop} (hc : eget s.env t = .bool b) (ht : b = true → AT P x (s.ovr t (.bool true)) K) (hf : b = false → AT P y (s.ovr t (.bool false)) K) : AT P (.cond (.tmp t) x y) s K :=
  at_cond (t := b) hc (fun h C w a hs => ht h C w a (ovr_rep hs (by rw [hc, h]))) (fun h C w a hs => hf h C w a (ovr_rep hs (by rw [hc, h])))
theorem at_iftd {t : Nat} {x y : Code} {p : Prop} [Decidable p] {K : Exit → St → Prop} (hc : eget s.env t = .bool (decide p)) (ht : p → AT P x (s.ovr t (.bool true)) K) (hf : ¬p → AT P y (s.ovr t (.bool false)) K) : AT P (.cond (.tmp t) x y) s K :=
  at_ift hc (fun h => ht (by simpa using h)) (fun h => hf (by simpa using h))
theorem at_iftn {t : Nat} {x y : Code} {p : Prop} [Decidable p] {K : Exit → St → Prop} (hc : eget s.env t = .bool (!decide p)) (ht : ¬p → AT P x (s.ovr t (.bool true)) K) (hf : p → AT P y (s.ovr t (.bool false)) K) : AT P (.cond (.tmp t) x y) s K :=
  at_ift hc (fun h => ht (by simpa using h)) (fun h => hf (by simpa using h))
theorem at_cond' {c : Operand} {x y : Code} {t : Bool} {K : Exit → St → Prop} (hc : ev s c = .bool t) (ht : t = true → AT P x s K) (hf : t = false → AT P y s K) : AT P (.cond c x y) s K := at_cond hc ht hf
theorem at_true {c : Operand} {x y : Code} {K : Exit → St → Prop} (hc : ev s c = .bool true) (h : AT P x s K) : AT P (.cond c x y) s K := at_cond hc (fun _ => h) (fun h => by cases h)
theorem at_false {c : Operand} {x y : Code} {K : Exit → St → Prop} (hc : ev s c = .bool false) (h : AT P y s K) : AT P (.cond c x y) s K := at_cond hc (fun h => by cases h) (fun _ => h)
theorem bk_hit {id : Nat} {K : Exit → St → Prop} (h : K .normal s) : blockK id K (.exit id) s := by
  show (if id = id then K .normal s else K (.exit id) s)
  rw [if_pos rfl]; exact h
theorem bk_miss {id i : Nat} {K : Exit → St → Prop} (hne : Nat.beq i id = false) (h : K (.exit i) s) : blockK id K (.exit i) s := by
  show (if i = id then K .normal s else K (.exit i) s)
  rw [if_neg (fun e => by subst e; simp at hne)]
  exact h

/-- All ways through x lead to one state that tells enough. -/
theorem at_cut {x y : Code} {K : Exit → St → Prop} (s2 : St) (h : AT P x s (thenK (fun s' => Down s' s2) K)) (h2 : AT P y s2 K) : AT P (.seq x y) s K := by
  refine at_seq ?_
  unfold AT at *
  intro C w a hs
  refine wp_mono (h C w a hs) ?_
  rintro e a' w' ⟨C', s', q1, q2, q3⟩
  refine ⟨C', s', q1, q2, ?_⟩
  cases e with
  | normal => exact at_down q3 h2
  | _ => exact q3

theorem s_byte {t : Nat} {x i : Operand} {l : List UInt8} {k : IntKind} {n : Int} (hT : TabOK P T) (hg : gd ops.toList s gu = some true) (ht : strT T t = true) (hx : ev s x = .str l) (hi : ev s i = .int k n)
    (h0 : 0 ≤ n ∧ n < l.length) (hp : s.put d (.int .u8 (l.getD n.toNat 0).toNat) = some s1) (h : AOps P ops r s1 K) :
    AOps P ops (⟨d, .index t x i, ty, pos, af, gu⟩ :: r) s K :=
  s_index hT hg ht hx hi h0.1 (b := l.getD n.toNat 0) (by
    have : n.toNat < l.length := by omega
    simp [List.getD, List.getElem?_eq_getElem this]) hp h

/-- A state tells less: slots alone. -/
theorem down_env {s2 : St} (he : EnvLe s s2.nx s2.env) (hh : s2.heap = []) (hx : Nat.ble s2.nx s.nx = true) (h2 : Nat.blt 2 s2.nx = true) (hn : s2.n = s.n) (hl : s2.lv = []) : Down s s2 :=
  ⟨he, by rw [hh]; trivial, Nat.le_of_ble_eq_true hx, by simpa using h2, hn, by rw [hl]; exact fun _ h => by cases h⟩
theorem ee_nil {n : Nat} : EnvLe s n [] := trivial
theorem ee_cons {n i : Nat} {x y : V} {l : List (Nat × V)} (h : eget s.env i = y) (he : y = x) (ho : Ok n x) (t : EnvLe s n l) : EnvLe s n ((i, x) :: l) := ⟨⟨h.trans he, ho⟩, t⟩

end
end Go.Abs
