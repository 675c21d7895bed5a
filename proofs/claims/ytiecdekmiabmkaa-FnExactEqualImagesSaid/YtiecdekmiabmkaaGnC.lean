/-
  More rules for option-valued programs: short circuits, slices of slices, appends to nil, arrivals.
-/
import Derived.Test.YtiecdekmiabmkaaGnB
set_option linter.unusedVariables false
set_option linter.unusedSimpArgs false
namespace Go.Abs

@[irreducible] def LF : Nat := 18446744073709551616
@[irreducible] def RF : Nat := 18446744073709551616
theorem LF_eq : LF = 18446744073709551616 := by unfold LF; rfl
theorem RF_eq : RF = 18446744073709551616 := by unfold RF; rfl

theorem cl_mid {P : Program} {x : Code} {s : St} {N : St → Prop} {K : Exit → St → Prop} (Q : St → Prop) (h : AT P x s (thenK Q K)) (h2 : ∀ s', Q s' → N s') : AT P x s (thenK N K) := by
  unfold AT at *
  intro C w a hs
  refine wp_mono (h C w a hs) ?_
  rintro e a' w' ⟨C', s', q1, q2, q3⟩
  refine ⟨C', s', q1, q2, ?_⟩
  cases e with
  | normal => exact h2 s' q3
  | _ => exact q3
theorem cl_mid0 {P : Program} {x y : Code} {s : St} {K : Exit → St → Prop} (J : St) (Φ : Prop) (h : AT P x s (thenK (fun s' => Φ ∧ Le s' J) K)) (h2 : Φ → AT P y J K) : AT P x s (thenK (fun s' => AT P y s' K) K) :=
  cl_mid _ h fun s' ⟨hv, d⟩ => at_le d (h2 hv)
theorem cl_midn {P : Program} {σ : Type} {x y : Code} {s : St} {K : Exit → St → Prop} (J : σ → St) (Φ : σ → Prop) (h : AT P x s (thenK (fun s' => ∃ v, Φ v ∧ Le s' (J v)) K)) (h2 : ∀ v, Φ v → AT P y (J v) K) : AT P x s (thenK (fun s' => AT P y s' K) K) :=
  cl_mid _ h fun s' ⟨v, hv, d⟩ => at_le d (h2 v hv)
theorem vle_eq {x y : V} (h : x = y) : VLe x y := by subst h; exact vle_refl x
theorem arr_cut {Q : St → Prop} {K : Exit → St → Prop} {s : St} (h : Q s) : thenK Q K .normal s := h
theorem arr_loop {σ : Type} {I : σ → St} {Φ : σ → Prop} {K : Exit → St → Prop} {s : St} (h : ∃ v, Φ v ∧ Le s (I v)) : loopL I Φ K .normal s := h
theorem tk_x {id : Nat} {N : St → Prop} {K : Exit → St → Prop} {s : St} (h : K (.exit id) s) : thenK N K (.exit id) s := h
theorem ll_x {id : Nat} {σ : Type} {I : σ → St} {Φ : σ → Prop} {K : Exit → St → Prop} {s : St} (h : K (.exit id) s) : loopL I Φ K (.exit id) s := h
theorem tk_r {N : St → Prop} {K : Exit → St → Prop} {s : St} (h : K .ret s) : thenK N K .ret s := h
theorem ll_r {σ : Type} {I : σ → St} {Φ : σ → Prop} {K : Exit → St → Prop} {s : St} (h : K .ret s) : loopL I Φ K .ret s := h
theorem bk_r {id : Nat} {K : Exit → St → Prop} {s : St} (h : K .ret s) : blockK id K .ret s := h
theorem bk_n {id : Nat} {K : Exit → St → Prop} {s : St} (h : K .normal s) : blockK id K .normal s := h

theorem rl_aggL {f : Nat → Nat} {xs ys : List V} (h : V.rlL f xs = ys) : V.rl f (.agg xs) = .agg ys := by simp only [V.rl, h]
theorem rl_tupL {f : Nat → Nat} {xs ys : List V} (h : V.rlL f xs = ys) : V.rl f (.tup xs) = .tup ys := by simp only [V.rl, h]

section
variable {P : Program} {T : List TI} {s : St} {ops : Array Oper} {d : Option Nat} {ty : Nat} {pos : String} {af : Array Edge} {gu : Option (Nat × Bool)} {r : List Oper} {K : St → Prop} {s1 : St}
variable {α : Type}

/-! ### A slot on which it depends -/
theorem ops_both {l : List Oper} {g : Nat} {b : Bool} (hv : eget s.env g = .bool b) (ht : b = true → AOps P ops l (s.ovr g (.bool true)) K) (hf : b = false → AOps P ops l (s.ovr g (.bool false)) K) : AOps P ops l s K := by
  intro C w a Q hs hq
  cases b
  · exact hf rfl C w a Q (ovr_rep hs hv) hq
  · exact ht rfl C w a Q (ovr_rep hs hv) hq
section
variable {l : List Oper} {g : Nat} {p : Prop} [Decidable p] {R : Type} {e1 e2 : Option R} {q : R} {N : St → Prop} {lo : List Oper}
theorem ops_if (hF : (if p then e1 else e2) = some q) (hv : eget s.env g = .bool (decide p)) (ht : p → e1 = some q → AOps P ops l (s.ovr g (.bool true)) K) (hf : ¬p → e2 = some q → AOps P ops l (s.ovr g (.bool false)) K) : AOps P ops l s K :=
  ops_both hv (fun h => by have h : p := by simpa using h
                           exact ht h (by rwa [if_pos h] at hF)) (fun h => by have h : ¬p := by simpa using h
                                                                              exact hf h (by rwa [if_neg h] at hF))
theorem ops_ifn (hF : (if p then e1 else e2) = some q) (hv : eget s.env g = .bool (!decide p)) (ht : ¬p → e2 = some q → AOps P ops l (s.ovr g (.bool true)) K) (hf : p → e1 = some q → AOps P ops l (s.ovr g (.bool false)) K) : AOps P ops l s K :=
  ops_both hv (fun h => by have h : ¬p := by simpa using h
                           exact ht h (by rwa [if_neg h] at hF)) (fun h => by have h : p := by simpa using h
                                                                              exact hf h (by rwa [if_pos h] at hF))
theorem ops_ifb {b : Bool} (hF : (if b = true then e1 else e2) = some q) (hv : eget s.env g = .bool b) (ht : b = true → e1 = some q → AOps P ops l (s.ovr g (.bool true)) K) (hf : b = false → e2 = some q → AOps P ops l (s.ovr g (.bool false)) K) : AOps P ops l s K :=
  ops_both hv (fun h => ht h (by rwa [if_pos h] at hF)) (fun h => hf h (by rw [h] at hF; exact hF))
theorem ops_ifnb {b : Bool} (hF : (if b = true then e1 else e2) = some q) (hv : eget s.env g = .bool (!b)) (ht : b = false → e2 = some q → AOps P ops l (s.ovr g (.bool true)) K) (hf : b = true → e1 = some q → AOps P ops l (s.ovr g (.bool false)) K) : AOps P ops l s K :=
  ops_both hv (fun h => by have h : b = false := by simpa using h
                           exact ht h (by rw [h] at hF; exact hF)) (fun h => by have h : b = true := by simpa using h
                                                                                exact hf h (by rwa [if_pos h] at hF))
theorem dr_if (hF : (if p then e1 else e2) = some q) (hv : eget s.env g = .bool (decide p)) (ht : p → e1 = some q → DR P lo l (s.ovr g (.bool true)) N) (hf : ¬p → e2 = some q → DR P lo l (s.ovr g (.bool false)) N) : DR P lo l s N :=
  d_split hv (fun h => by have h : p := by simpa using h
                          exact ht h (by rwa [if_pos h] at hF)) (fun h => by have h : ¬p := by simpa using h
                                                                             exact hf h (by rwa [if_neg h] at hF))
theorem dr_ifn (hF : (if p then e1 else e2) = some q) (hv : eget s.env g = .bool (!decide p)) (ht : ¬p → e2 = some q → DR P lo l (s.ovr g (.bool true)) N) (hf : p → e1 = some q → DR P lo l (s.ovr g (.bool false)) N) : DR P lo l s N :=
  d_split hv (fun h => by have h : ¬p := by simpa using h
                          exact ht h (by rwa [if_neg h] at hF)) (fun h => by have h : p := by simpa using h
                                                                             exact hf h (by rwa [if_pos h] at hF))
theorem dr_ifb {b : Bool} (hF : (if b = true then e1 else e2) = some q) (hv : eget s.env g = .bool b) (ht : b = true → e1 = some q → DR P lo l (s.ovr g (.bool true)) N) (hf : b = false → e2 = some q → DR P lo l (s.ovr g (.bool false)) N) : DR P lo l s N :=
  d_split hv (fun h => ht h (by rwa [if_pos h] at hF)) (fun h => hf h (by rw [h] at hF; exact hF))
theorem dr_ifnb {b : Bool} (hF : (if b = true then e1 else e2) = some q) (hv : eget s.env g = .bool (!b)) (ht : b = false → e2 = some q → DR P lo l (s.ovr g (.bool true)) N) (hf : b = true → e1 = some q → DR P lo l (s.ovr g (.bool false)) N) : DR P lo l s N :=
  d_split hv (fun h => by have h : b = false := by simpa using h
                          exact ht h (by rw [h] at hF; exact hF)) (fun h => by have h : b = true := by simpa using h
                                                                               exact hf h (by rwa [if_pos h] at hF))
end

/-! ### Values -/
theorem oc_hfield {t u n i off k o ft : Nat} {y : Operand} {sz : Nat} {rows : List (List V)} (hT : TabOK P T) (hf : fieldOf T t k = some (o, ft)) (hz : Nat.beq (sizeT T ft) 0 = false) (hy : ev s y = .ptr u n i off) (hu : hget s.heap u = some ⟨sz, rows⟩) (hn : n = rows.length) : OpVal P s (.fieldAddr t y k) (.ptr u n i (off + o)) := by
  refine ov_step (T := T) hT ?_
  subst hn
  simp only [pstep, hf, hz, hy, hu, Nat.beq_refl, cond_true, cond_false]
theorem oc_quo {t t' : Nat} {x y : Operand} {a b : Int} (hx : ev s x = .int .i64 a) (hy : ev s y = .int .i64 b) (h : 0 ≤ a ∧ a ≤ 9223372036854775807 ∧ 0 < b) : OpVal P s (.binOp .quo t x y t') (.int .i64 (a / b)) := ov_quo hx hy h
theorem oc_rem {t t' : Nat} {x y : Operand} {a b : Int} (hx : ev s x = .int .i64 a) (hy : ev s y = .int .i64 b) (h : 0 ≤ a ∧ a ≤ 9223372036854775807 ∧ 0 < b) : OpVal P s (.binOp .rem t x y t') (.int .i64 (a % b)) := ov_rem hx hy ⟨h.1, h.2.2⟩

theorem run_sliceBound {x : Value} {y : Nat} {n : Int} {c : BoundsCode} {k : IntKind} (hx : x = .int k n) (h : 0 ≤ n ∧ n ≤ (y : Int)) (w : World) : (Instr.sliceBound x y c).run P w = .ok n.toNat w := by
  subst hx
  simp [Instr.sliceBound, asIntOf, h.1, h.2]

/-- A part of a text. -/
theorem ov_substr {t : Nat} {x : Operand} {l : List UInt8} (lo hi : Option Operand) {a b : Nat} (hT : TabOK P T) (ht : strT T t = true) (hx : ev s x = .str l)
    (hlo : match lo with | none => a = 0 | some y => ∃ k n, ev s y = .int k n ∧ 0 ≤ n ∧ a = n.toNat)
    (hhi : match hi with | none => b = l.length | some y => ∃ k n, ev s y = .int k n ∧ 0 ≤ n ∧ b = n.toNat) (hab : a ≤ b) (hbl : b ≤ l.length) :
    OpVal P s (.slice t x lo hi none) (.str ((l.take b).drop a)) := fun C w ac hs d ty pos af gu => by
  have hv := hs.ev x; rw [hx] at hv
  generalize e1 : ac.eval x = v at hv
  cases hv
  refine ⟨.string ((⟨l.toArray⟩ : ByteArray).extract a b), fun w' _ => ?_, ?_⟩
  · have hsz : (⟨l.toArray⟩ : ByteArray).size = l.length := bytes_size l
    have H : (Instr.sliceBounds false l.length l.length (lo.map ac.eval) (hi.map ac.eval) none).run P w' = .ok (a, b, l.length) w' := by
      unfold Instr.sliceBounds
      cases hi with
      | none =>
        simp only at hhi
        subst hhi
        cases lo with
        | none => simp only at hlo; subst hlo; simp
        | some y =>
          obtain ⟨k, n, h1, h2, rfl⟩ := hlo
          have hv2 := hs.ev y; rw [h1] at hv2
          generalize e2 : ac.eval y = v2 at hv2
          cases hv2
          simp [e2, run_sliceBound rfl (show 0 ≤ n ∧ n ≤ ((l.length : Nat) : Int) by omega)]
      | some z =>
        obtain ⟨k, m, h1, h2, rfl⟩ := hhi
        have hv3 := hs.ev z; rw [h1] at hv3
        generalize e3 : ac.eval z = v3 at hv3
        cases hv3
        cases lo with
        | none => simp only at hlo; subst hlo; simp [e3, run_sliceBound rfl (show 0 ≤ m ∧ m ≤ ((l.length : Nat) : Int) by omega)]
        | some y =>
          obtain ⟨k, n, h4, h5, rfl⟩ := hlo
          have hv2 := hs.ev y; rw [h4] at hv2
          generalize e2 : ac.eval y = v2 at hv2
          cases hv2
          simp [e2, e3, run_sliceBound rfl (show 0 ≤ m ∧ m ≤ ((l.length : Nat) : Int) by omega), run_sliceBound rfl (show 0 ≤ n ∧ n ≤ ((m.toNat : Nat) : Int) by omega)]
    simp [execOp, e1, Instr.sliceAt, Instr.slice, run_underlying (strT_spec hT ht), hsz, H]
  · have : (⟨l.toArray⟩ : ByteArray).extract a b = ⟨((l.take b).drop a).toArray⟩ := by
      ext1
      simp [ByteArray.data_extract, List.extract_toArray, List.extract, List.drop_take]
    rw [this]
    exact .str _

theorem oc_sub_n {t : Nat} {x : Operand} {l : List UInt8} (hT : TabOK P T) (ht : strT T t = true) (hx : ev s x = .str l) : OpVal P s (.slice t x none none none) (.str l) := by
  have := ov_substr (s := s) none none hT ht hx rfl rfl (Nat.zero_le _) (Nat.le_refl _)
  simpa using this
theorem oc_sub_l {t : Nat} {x y : Operand} {l : List UInt8} {n : Int} {k : IntKind} (hb : 0 ≤ n ∧ n ≤ l.length) (hT : TabOK P T) (ht : strT T t = true) (hx : ev s x = .str l) (hy : ev s y = .int k n) : OpVal P s (.slice t x (some y) none none) (.str (l.drop n.toNat)) := by
  have := ov_substr (s := s) (some y) none hT ht hx ⟨k, n, hy, hb.1, rfl⟩ rfl (by omega) (Nat.le_refl _)
  simpa using this
theorem oc_sub_h {t : Nat} {x y : Operand} {l : List UInt8} {n : Int} {k : IntKind} (hb : 0 ≤ n ∧ n ≤ l.length) (hT : TabOK P T) (ht : strT T t = true) (hx : ev s x = .str l) (hy : ev s y = .int k n) : OpVal P s (.slice t x none (some y) none) (.str (l.take n.toNat)) := by
  have := ov_substr (s := s) none (some y) hT ht hx rfl ⟨k, n, hy, hb.1, rfl⟩ (by omega) (by omega)
  simpa using this
theorem oc_sub_lh {t : Nat} {x y z : Operand} {l : List UInt8} {n m : Int} {k k' : IntKind} (hb : 0 ≤ n ∧ n ≤ m ∧ m ≤ l.length) (hT : TabOK P T) (ht : strT T t = true) (hx : ev s x = .str l) (hy : ev s y = .int k n) (hz : ev s z = .int k' m) : OpVal P s (.slice t x (some y) (some z) none) (.str ((l.take m.toNat).drop n.toNat)) :=
  ov_substr (some y) (some z) hT ht hx ⟨k, n, hy, hb.1, rfl⟩ ⟨k', m, hz, by omega, rfl⟩ (by omega) (by omega)

/-- A part of a slice that is only read. -/
theorem ov_psub {t e sz lb : Nat} {x : Operand} {rows : List (List V)} (lo hi : Option Operand) {a b : Nat} (hT : TabOK P T) (ht : elemT T t = some (e, sz)) (hx : ev s x = .psl lb sz rows) (hl : s.live lb = true)
    (hlo : match lo with | none => a = 0 | some y => ∃ k n, ev s y = .int k n ∧ 0 ≤ n ∧ a = n.toNat)
    (hhi : match hi with | none => b = rows.length | some y => ∃ k n, ev s y = .int k n ∧ 0 ≤ n ∧ b = n.toNat) (hab : a ≤ b) (hbl : b ≤ rows.length) :
    OpVal P s (.slice t x lo hi none) (.psl lb sz ((rows.take b).drop a)) := fun C w ac hs d ty pos af gu => by
  have hv := hs.ev x; rw [hx] at hv
  obtain ⟨hu, te, hte, hsz⟩ := elemT_spec hT ht
  -- the bounds, for any length and capacity that fit
  have H : ∀ (len cap : Nat), len = rows.length → b ≤ cap → ∀ w', (Instr.sliceBounds true len cap (lo.map ac.eval) (hi.map ac.eval) none).run P w' = .ok (a, b, cap) w' := fun len cap hlen hcap w' => by
    unfold Instr.sliceBounds
    cases hi with
    | none =>
      simp only at hhi
      subst hhi
      cases lo with
      | none => simp only at hlo; subst hlo; simp [hlen]
      | some y =>
        obtain ⟨k, n, h1, h2, rfl⟩ := hlo
        have hv2 := hs.ev y; rw [h1] at hv2
        generalize e2 : ac.eval y = v2 at hv2
        cases hv2
        subst hlen
        simp [e2, run_sliceBound rfl (show 0 ≤ n ∧ n ≤ ((rows.length : Nat) : Int) by omega)]
    | some z =>
      obtain ⟨k, m, h1, h2, rfl⟩ := hhi
      have hv3 := hs.ev z; rw [h1] at hv3
      generalize e3 : ac.eval z = v3 at hv3
      cases hv3
      cases lo with
      | none => simp only at hlo; subst hlo; simp [e3, run_sliceBound rfl (show 0 ≤ m ∧ m ≤ ((cap : Nat) : Int) by omega)]
      | some y =>
        obtain ⟨k, n, h4, h5, rfl⟩ := hlo
        have hv2 := hs.ev y; rw [h4] at hv2
        generalize e2 : ac.eval y = v2 at hv2
        cases hv2
        simp [e2, e3, run_sliceBound rfl (show 0 ≤ m ∧ m ≤ ((cap : Nat) : Int) by omega), run_sliceBound rfl (show 0 ≤ n ∧ n ≤ ((m.toNat : Nat) : Int) by omega)]
  have hrun : ∀ ad len cap, ac.eval x = .slice ad len cap → len = rows.length → b ≤ cap → ∀ w', (execOp ac.eval ⟨d, .slice t x lo hi none, ty, pos, af, gu⟩).run P w' = .ok (.value (.slice (if cap = a then ad else ad.map (·.add (a * sz))) (b - a) (cap - a))) w' := fun ad len cap e hlen hcap w' => by
    simp [execOp, e, Instr.sliceAt, Instr.slice, run_underlying hu, H len cap hlen hcap w', hT.size hte, hsz]
  generalize e1 : ac.eval x = v at hv hrun
  cases hv with
  | psl0 ad cap =>
    have h0 : b = 0 := by simpa using hbl
    subst h0
    have h0' : a = 0 := by omega
    subst h0'
    refine ⟨_, fun w' _ => hrun ad 0 cap rfl rfl (Nat.zero_le _) w', ?_⟩
    simp only [List.take_nil, List.drop_nil, Nat.sub_self]
    exact .psl0 _ _ _ _
  | psld _ h1 _ => exact absurd (hs.live hl) h1
  | psl vals h1 h2 h3 hlen hlc h5 h6 =>
    rename_i blk off len cap
    have hcap : b ≤ cap := by omega
    · refine ⟨_, fun w' _ => hrun _ len cap rfl hlen hcap w', ?_⟩
      by_cases hz : b = a
      · subst hz
        have : (rows.take b).drop b = [] := by simp
        rw [this, Nat.sub_self]
        exact .psl0 _ _ _ _
      · have hne : ¬ cap = a := by omega
        rw [if_neg hne]
        simp only [Option.map_some, addr_add]
        have hget : ∀ (i : Nat) row, ((rows.take b).drop a)[i]? = some row → rows[a + i]? = some row := fun i row hi => by
          rw [List.getElem?_drop, List.getElem?_take] at hi
          split at hi
          · exact hi
          · cases hi
        refine .psl (off := off + a * sz) (fun i => vals (a + i)) h1 h2 h3 (by simp; omega) (by omega) (fun i row hi => ⟨(h5 _ _ (hget i row hi)).1, fun j v hj => ?_⟩) (fun i row hi => h6 _ _ (hget i row hi))
        have := (h5 _ _ (hget i row hi)).2 j v hj
        rw [← this]
        congr 2
        rw [Nat.add_mul]; omega

theorem oc_psub_n (c : Cd α) {t e lb : Nat} {x : Operand} {l : List α} (hT : TabOK P T) (ht : elemT T t = some (e, c.sz)) (hx : ev s x = .psl lb c.sz (l.map (c.enc lb))) (hl : s.live lb = true) : OpVal P s (.slice t x none none none) (.psl lb c.sz (l.map (c.enc lb))) := by
  have := ov_psub (s := s) none none hT ht hx hl rfl rfl (Nat.zero_le _) (Nat.le_refl _)
  rw [List.take_length, List.drop_zero] at this
  exact this
theorem oc_psub_l (c : Cd α) {t e lb : Nat} {x y : Operand} {l : List α} {n : Int} {k : IntKind} (hb : 0 ≤ n ∧ n ≤ l.length) (hT : TabOK P T) (ht : elemT T t = some (e, c.sz)) (hx : ev s x = .psl lb c.sz (l.map (c.enc lb))) (hl : s.live lb = true) (hy : ev s y = .int k n) : OpVal P s (.slice t x (some y) none none) (.psl lb c.sz ((l.drop n.toNat).map (c.enc lb))) := by
  have := ov_psub (s := s) (some y) none hT ht hx hl ⟨k, n, hy, hb.1, rfl⟩ rfl (by simp; omega) (Nat.le_refl _)
  rw [List.take_length, ← List.map_drop] at this
  exact this
theorem oc_psub_h (c : Cd α) {t e lb : Nat} {x y : Operand} {l : List α} {n : Int} {k : IntKind} (hb : 0 ≤ n ∧ n ≤ l.length) (hT : TabOK P T) (ht : elemT T t = some (e, c.sz)) (hx : ev s x = .psl lb c.sz (l.map (c.enc lb))) (hl : s.live lb = true) (hy : ev s y = .int k n) : OpVal P s (.slice t x none (some y) none) (.psl lb c.sz ((l.take n.toNat).map (c.enc lb))) := by
  have := ov_psub (s := s) none (some y) hT ht hx hl rfl ⟨k, n, hy, hb.1, rfl⟩ (by omega) (by simp; omega)
  rw [List.drop_zero, ← List.map_take] at this
  exact this
theorem oc_psub_lh (c : Cd α) {t e lb : Nat} {x y z : Operand} {l : List α} {n m : Int} {k k' : IntKind} (hb : 0 ≤ n ∧ n ≤ m ∧ m ≤ l.length) (hT : TabOK P T) (ht : elemT T t = some (e, c.sz)) (hx : ev s x = .psl lb c.sz (l.map (c.enc lb))) (hl : s.live lb = true) (hy : ev s y = .int k n) (hz : ev s z = .int k' m) : OpVal P s (.slice t x (some y) (some z) none) (.psl lb c.sz (((l.take m.toNat).drop n.toNat).map (c.enc lb))) := by
  have := ov_psub (s := s) (some y) (some z) hT ht hx hl ⟨k, n, hy, hb.1, rfl⟩ ⟨k', m, hz, by omega, rfl⟩ (by omega) (by simp; omega)
  rw [← List.map_take, ← List.map_drop] at this
  exact this

/-! ### Make -/
theorem rLe_replicate {z y : List V} (h : VLeL z y) : ∀ n : Nat, RLe (List.replicate n z) (List.replicate n y)
  | 0 => trivial
  | n + 1 => ⟨h, rLe_replicate h n⟩
theorem hget_dup {u : Nat} {A B : HB} {H : List (Nat × HB)} (x : Nat) : hget ((u, A) :: (u, B) :: H) x = hget ((u, A) :: H) x := by
  simp only [hget]
  cases Nat.beq x u <;> rfl
theorem hst_drop {C : Ctx} {w : World} {u : Nat} {A B : HB} {h : List (Nat × HB)} (H : HSt C w ((u, A) :: (u, B) :: h)) : HSt C w ((u, A) :: h) :=
  ⟨fun x hx => H.dom x (by rw [hget_dup]; exact hx), fun x q hx => H.ent x q (by rw [hget_dup]; exact hx), H.lt, H.inj, H.own, H.regs, H.lvs, H.rdis, H.zero, H.two⟩
theorem sc_make (c : Cd α) {z : List V} {v : α} {t e l : Nat} {kd : TK} {sz bts : Nat} {ag : Bool} {x y : Operand} {n : Int} (hb : 0 ≤ n ∧ bts * n ≤ 281474976710656 ∧ n ≤ 281474976710656) (hT : TabOK P T) (hg : gd ops.toList s gu = some true) (ht : elemI T t = some (e, ⟨kd, sz, bts, z, ag⟩)) (hx : ev s x = .int .i64 n) (hy : ev s y = .int .i64 n)
    (hz : VLeL z (c.row l v)) (hsz : Nat.beq z.length sz = true) (hs0 : Nat.beq sz 0 = false)
    (hp : s.newH sz ((List.replicate n.toNat v).map (c.enc l)) (List.replicate n.toNat v).length d = some s1) (h : AOps P ops r s1 K) :
    AOps P ops (⟨d, .makeSlice t x y, ty, pos, af, gu⟩ :: r) s K := by
  rw [List.map_replicate, c.eq, List.length_replicate] at hp
  have hR := rLe_replicate hz n.toNat
  cases s with
  | mk env heap nx m lv =>
    cases d with
    | none =>
      simp only [St.newH, Option.some.injEq] at hp
      subst hp
      refine s_make hT hg ht hx hy ⟨Nat.eq_of_beq_eq_true hsz, fun e => by simp [e] at hs0⟩ hb (s1 := ⟨env, (nx, ⟨sz, List.replicate n.toNat z⟩) :: heap, nx + 1, m, lv⟩) rfl ?_
      refine ops_le (Le.trans (le_row nx (sz := sz) (by simp [hget]) hR rfl) (le_same fun C w a hs => ?_)) h
      exact ⟨hs.defers, hs.size, hs.nx, hs.env, hst_drop hs.heap, hs.lv⟩
    | some d =>
      simp only [St.newH] at hp
      rw [Bool.cond_eq_ite] at hp
      split at hp
      · rename_i hd
        simp only [Option.some.injEq] at hp
        subst hp
        refine s_make hT hg ht hx hy ⟨Nat.eq_of_beq_eq_true hsz, fun e => by simp [e] at hs0⟩ hb (s1 := ⟨(d, .hsl nx 0 n.toNat) :: env, (nx, ⟨sz, List.replicate n.toNat z⟩) :: heap, nx + 1, m, lv⟩) (by simp [St.newH, hd]) ?_
        refine ops_le (Le.trans (le_row nx (sz := sz) (by simp [hget]) hR rfl) (le_same fun C w a hs => ?_)) h
        exact ⟨hs.defers, hs.size, hs.nx, hs.env, hst_drop hs.heap, hs.lv⟩
      · cases hp

/-! ### Another number for a row -/
def St.renum : St → Nat → Nat → Nat → Nat → List (List V) → St
  | ⟨env, heap, nx, n, lv⟩, i, u, len, sz, rows => ⟨(i, .hsl nx 0 len) :: env, (nx, ⟨sz, rows⟩) :: hdel u heap, nx + 1, n, lv⟩
theorem le_renum {s' : St} (i : Nat) {u len sz : Nat} {rows : List (List V)} (hv : eget s.env i = .hsl u 0 len) (hu : hget s.heap u = some ⟨sz, rows⟩) (hlen : len = rows.length) (hs' : s.renum i u len sz rows = s') : Le s s' := fun C w a hs => by
  subst hs'
  have hrep := hs.env i
  rw [hv] at hrep
  obtain ⟨L, h1, h2, h3, h4, h5⟩ := hsl_spec hs.heap hrep hu (by show 0 + len = rows.length; omega)
  have H := hs.heap
  have hux := H.lt u L h1
  let C' : Ctx := { C with loc := fun x => if x = C.nx then some L else if x = u then none else C.loc x, nx := C.nx + 1 }
  have hloc : ∀ x M, C'.loc x = some M → (x = C.nx ∧ M = L) ∨ (x ≠ C.nx ∧ x ≠ u ∧ C.loc x = some M) := fun x M h => by
    simp only [C'] at h
    split at h
    · simp only [Option.some.injEq] at h; exact .inl ⟨by assumption, h.symm⟩
    · split at h
      · cases h
      · exact .inr ⟨by assumption, by assumption, h⟩
  have E : Ext C C' w w := by
    refine ⟨Nat.le_succ _, fun x M hx h => ?_, fun _ _ h => h, fun _ _ _ _ h => ⟨h, rfl⟩⟩
    rcases hloc x M h with ⟨e, _⟩ | ⟨_, _, h⟩
    · omega
    · exact ⟨M, h, .inl rfl⟩
  have hsf : s.renum i u len sz rows = ⟨(i, .hsl C.nx 0 len) :: s.env, (C.nx, ⟨sz, rows⟩) :: hdel u s.heap, C.nx + 1, s.n, s.lv⟩ := by cases s; simp only [St.renum]; rw [hs.nx]
  have orig : ∀ x M, C'.loc x = some M → ∃ y, C.loc y = some M ∧ (x = C.nx → y = u) ∧ (x ≠ C.nx → y = x ∧ x ≠ u) := fun x M h => by
    rcases hloc x M h with ⟨e, rfl⟩ | ⟨e1, e2, h⟩
    · exact ⟨u, h1, fun _ => rfl, fun h => absurd e h⟩
    · exact ⟨x, h, fun h => absurd h e1, fun _ => ⟨rfl, e2⟩⟩
  refine ⟨C', ?_, ?_⟩
  · rw [hsf]
    refine ⟨hs.defers, hs.size, rfl, fun j => ?_, ⟨fun x hx => ?_, fun x hbk hx => ?_, fun x M hM => ?_, fun x x' M M' c g1 g2 g3 g4 => ?_, fun x M c l g1 g2 g3 g4 => ?_, H.regs, fun l hl => Nat.lt_succ_of_lt (H.lvs l hl), H.rdis, H.zero, Nat.lt_succ_of_lt H.two⟩, hs.lv⟩
    · simp only [eget]
      rw [Bool.cond_eq_ite]
      split
      · rename_i hj
        rw [Nat.beq_eq] at hj
        subst hj
        refine .hsl (Nat.lt_succ_self _) fun L' hL' => ?_
        simp only [C', if_pos] at hL'
        simp only [Option.some.injEq] at hL'
        subst hL'
        have h3' : L.n = rows.length := h3
        exact ⟨by omega, fun _ => h5⟩
      · exact (hs.env j).mono E
    · simp only [hget] at hx
      rw [Bool.cond_eq_ite] at hx
      split at hx
      · cases hx
      · rename_i hne
        rw [Nat.beq_eq] at hne
        rw [hget_hdel] at hx
        simp only [C']
        rw [if_neg hne]
        split
        · rfl
        · rename_i hne2; rw [if_neg hne2] at hx; exact H.dom x hx
    · simp only [hget] at hx
      rw [Bool.cond_eq_ite] at hx
      split at hx
      · rename_i he
        rw [Nat.beq_eq] at he
        simp only [Option.some.injEq] at hx
        subst hx; subst he
        exact ⟨L, by simp [C'], h2, h3, h4.mono E (fun _ _ => rfl)⟩
      · rename_i hne
        rw [Nat.beq_eq] at hne
        rw [hget_hdel] at hx
        split at hx
        · cases hx
        · rename_i hne2
          obtain ⟨M, g1, g2, g3, g4⟩ := H.ent x hbk hx
          exact ⟨M, by simp only [C']; rw [if_neg hne, if_neg hne2]; exact g1, g2, g3, g4.mono E (fun _ _ => rfl)⟩
    · obtain ⟨y, g1, g2, g3⟩ := orig x M hM
      by_cases e : x = C.nx
      · show x < C.nx + 1; omega
      · have := H.lt y M g1
        have := (g3 e).1
        show x < C.nx + 1; omega
    · obtain ⟨y, p1, p2, p3⟩ := orig x M g1
      obtain ⟨y', p4, p5, p6⟩ := orig x' M' g2
      have e := H.inj y y' M M' c p1 p4 g3 g4
      by_cases e1 : x = C.nx <;> by_cases e2 : x' = C.nx
      · omega
      · have := p2 e1; have := (p6 e2); omega
      · have := p5 e2; have := (p3 e1); omega
      · have := (p3 e1).1; have := (p6 e2).1; omega
    · obtain ⟨y, p1, _, _⟩ := orig x M g1
      exact H.own y M c l p1 g2 g3 g4
  · refine ⟨Nat.le_refl _, fun _ _ _ => rfl, fun b hb => ?_, fun b hb => hb, fun b hb => .inl hb, rfl, rfl, fun x hx M h => ?_⟩
    · rcases hb with ⟨x, M, g1, g2⟩ | hb
      · obtain ⟨y, p1, _, _⟩ := orig x M g1
        exact .inl (.inl ⟨y, M, p1, g2⟩)
      · exact .inl (.inr hb)
    · rcases hloc x M h with ⟨e, _⟩ | ⟨_, _, h⟩
      · have := H.two; omega
      · exact ⟨M, h, .inl rfl⟩

/-! ### Append to nil -/
theorem sc_append0 (c : Cd α) {t tx e l : Nat} {kd : TK} {sz bts : Nat} {z0 : List V} {ag : Bool} {x y : Operand} {ys : List α} (hb : ys.length * bts ≤ 140737488355328) (hbts : Nat.beq bts 0 = false) (hT : TabOK P T) (hg : gd ops.toList s gu = some true) (ht : elemI T t = some (e, ⟨kd, sz, bts, z0, ag⟩)) (htx : notIntT T tx = true) (hz : Nat.beq z0.length sz = true) (hz0 : Nat.beq sz 0 = false)
    (hx : ev s x = .nilsl) (hsrc : ∀ C w a, StRep C w a s → ∃ news, Src P C w sz (ys.map (c.enc l)) (a.eval y) news)
    (hp : s.newH sz (ys.map (c.enc l)) ys.length d = some s1) (h : AOps P ops r s1 K) :
    AOps P ops (⟨d, .call ⟨.builtin .append, ⟨[x, y]⟩, ⟨[t, tx]⟩⟩, ty, pos, af, gu⟩ :: r) s K := by
  have hb1 : 1 ≤ bts := by rcases Nat.eq_zero_or_pos bts with e | e; · simp [e] at hbts
                           · exact e
  have hle : ys.length ≤ ys.length * bts := Nat.le_mul_of_pos_right _ hb1
  refine aops_value hg fun C w a hs => ?_
  obtain ⟨h1, h2, h3⟩ := hst_nil hs.heap sz
  have hs1 : StRep (C.set C.nx ⟨none, sz, 0, 0⟩ (C.nx + 1)) w a ⟨s.env, (s.nx, ⟨sz, []⟩) :: s.heap, s.nx + 1, s.n, s.lv⟩ := by
    have e : C.nx = s.nx := hs.nx
    refine ⟨hs.defers, hs.size, ?_, fun i => (hs.env i).mono h2, ?_, hs.lv⟩
    · show C.nx + 1 = s.nx + 1; rw [e]
    · rw [← e]; exact h1
  have hv : Rep (C.set C.nx ⟨none, sz, 0, 0⟩ (C.nx + 1)) w (a.eval x) (.hsl s.nx 0 0) := by
    have := hs.ev x; rw [hx] at this
    rw [← hs.nx]
    exact rep_nilrow sz this
  have hS : ∃ news, Src P (C.set C.nx ⟨none, sz, 0, 0⟩ (C.nx + 1)) w sz (ys.map (c.enc l)) (a.eval y) news := by
    obtain ⟨news, q1, q2, q3, q4, q5⟩ := hsrc C w a hs
    exact ⟨news, q1, q2, q3, q4.mono h2, q5⟩
  have hp' : ((⟨s.env, (s.nx, ⟨sz, []⟩) :: s.heap, s.nx + 1, s.n, s.lv⟩ : St).wr s.nx ⟨sz, [] ++ ys.map (c.enc l)⟩).put d (.hsl s.nx 0 (0 + (ys.map (c.enc l)).length)) = some (match d with | none => ⟨s.env, (s.nx, ⟨sz, ys.map (c.enc l)⟩) :: (s.nx, ⟨sz, []⟩) :: s.heap, s.nx + 1, s.n, s.lv⟩ | some d => ⟨(d, .hsl s.nx 0 ys.length) :: s.env, (s.nx, ⟨sz, ys.map (c.enc l)⟩) :: (s.nx, ⟨sz, []⟩) :: s.heap, s.nx + 1, s.n, s.lv⟩) := by
    cases s with
    | mk env heap nx n lv =>
      cases d with
      | none => simp [St.wr, St.put]
      | some d =>
        simp only [St.newH] at hp
        rw [Bool.cond_eq_ite] at hp
        split at hp
        · rename_i hd
          simp [St.wr, St.put, hd]
        · cases hp
  refine Exists.imp (fun v hh => ?_) (append_core (ops := ops) (r := r) (ty := ty) (pos := pos) (af := af) (gu := gu) (K := K) hT ht htx ⟨Nat.eq_of_beq_eq_true hz, fun e => by simp [e] at hz0⟩ (by simp [hget]) (by simp) ⟨by simpa using hb, by simp; omega⟩ hp' ?_ hs1 hv hS)
  · obtain ⟨w', C', s', g1, g2, g3, g4⟩ := hh
    exact ⟨w', C', s', g1, g2, h3.trans g3, g4⟩
  · -- the row that was there for a moment is of no matter
    refine ops_le (s' := s1) (le_same fun C w a hs => ?_) h
    have hd : ∀ {n : Nat} {A B : HB} {H : List (Nat × HB)} (x : Nat), hget ((n, A) :: (n, B) :: H) x = hget ((n, A) :: H) x := fun x => by
      simp only [hget]
      cases Nat.beq x _ <;> rfl
    cases s with
    | mk env heap nx n lv =>
      have key : ∀ {E : List (Nat × V)}, StRep C w a ⟨E, (nx, ⟨sz, ys.map (c.enc l)⟩) :: (nx, ⟨sz, []⟩) :: heap, nx + 1, n, lv⟩ → StRep C w a ⟨E, (nx, ⟨sz, ys.map (c.enc l)⟩) :: heap, nx + 1, n, lv⟩ := fun g => by
        have H := g.heap
        exact ⟨g.defers, g.size, g.nx, g.env, ⟨fun x hx => H.dom x (by rw [hd]; exact hx), fun x q hx => H.ent x q (by rw [hd]; exact hx), H.lt, H.inj, H.own, H.regs, H.lvs, H.rdis, H.zero, H.two⟩, g.lv⟩
      cases d with
      | none =>
        simp only [St.newH, Option.some.injEq] at hp
        subst hp
        exact key hs
      | some d =>
        simp only [St.newH] at hp
        rw [Bool.cond_eq_ite] at hp
        split at hp
        · simp only [Option.some.injEq] at hp
          subst hp
          exact key hs
        · cases hp

/-! ### A slice of the call's own, into a variable of the call's own -/
theorem aops_storeP {t : Nat} {y z : Operand} {ti : TI} {u n i off : Nat} {hb : HB} {row : List V} {x : V} {K : St → Prop} (hT : TabOK P T)
    (hg : gd ops.toList s gu = some true) (ht : T[t]? = some ti) (hy : ev s y = .ptr u n i off) (hu : hget s.heap u = some hb) (hn : n = hb.rows.length) (hrow : hb.rows[i]? = some row)
    (hone : ∀ C w a, StRep C w a s → ∀ v, Rep C w v x → v.cells = #[v] ∧ v.oneCell' = true) (hx : ev s z = x) (hsz : ti.size = 1) (hoff : off + 1 ≤ row.length)
    (h : AOps P ops r (s.wr u ⟨hb.sz, hb.rows.set i (row.take off ++ [x] ++ row.drop (off + 1))⟩) K) :
    AOps P ops (⟨none, .store t y z, ty, pos, af, gu⟩ :: r) s K :=
  aops_skipv hg fun C w a hs => by
    have hv := hs.ev y
    rw [hy] at hv
    obtain ⟨L, b, hL, hLsz, hLn, hblk, hbb, he⟩ := ptr_spec hs.heap hv hu hn
    obtain ⟨cells, el, fz, hheap, hcs, hle, hfz, hrep⟩ := of_blk hbb hblk
    have hz1 := hs.ev z
    rw [hx] at hz1
    obtain ⟨hc1, hc2⟩ := hone C w a hs _ hz1
    have hz : RepL C w (a.eval z).cells.toList [x] := by rw [hc1]; exact .cons hz1 .nil
    have hzl := hz.length
    have hin := in_of_repR hheap hrep
    obtain ⟨hin2, hbd⟩ := rowsIn_store hcs hle hin hrow hz hoff
    have hall : ∀ v ∈ (a.eval z).cells.toList, v.oneCell' = true := by rw [hc1]; intro v hv; simp at hv; subst hv; exact hc2
    have hrun := run_storeCells_fz (P := P) b (i * hb.sz + off) el fz (a.eval z).cells.toList 0 cells w hheap hfz (by rw [hLsz] at hbd; simpa using hbd) hall
    have hw := HSt.write hs.heap (w' := w.setRow b _) (rows := hb.rows.set i (row.take off ++ [x] ++ row.drop (off + 1))) hL hbb rfl rfl (setRow_size w b (cells.toList.take (i * L.sz + off) ++ (a.eval z).cells.toList ++ cells.toList.drop (i * L.sz + off + (a.eval z).cells.toList.length)).toArray) (fun c hc => setRow_other w b c _ hc) (setRow_heap w b cells _ el fz hheap)
      (by simp at hbd ⊢; omega) (by
        have : ((cells.toList.take (i * L.sz + off) ++ (a.eval z).cells.toList ++ cells.toList.drop (i * L.sz + off + (a.eval z).cells.toList.length)).toArray).size = cells.size := by
          simp at hbd ⊢; omega
        rw [this]; exact hfz) (by simpa using hle) (.inl (by simp [hLn])) (fun C' w' E => hin2.mono E)
    have hset := set_same C (n := (hb.rows.set i (row.take off ++ [x] ++ row.drop (off + 1))).length) hL (by simp [hLn])
    rw [hset, hLsz] at hw
    obtain ⟨w1, w2, w3⟩ := hw
    refine ⟨_, C, s.wr u ⟨hb.sz, hb.rows.set i (row.take off ++ [x] ++ row.drop (off + 1))⟩, ?_, wr_rep ⟨hs.defers, hs.size, hs.nx, fun i => (hs.env i).mono w2, w1, hs.lv⟩, w3, h⟩
    have e : (a.eval z).cells.size = ti.size := by rw [hsz, hc1]; rfl
    simp only [Nat.add_zero] at hrun
    simp [execOp, he, Instr.storeAt, Instr.sureAddr, storeVar, hT.size ht, e, hrun]

theorem one_hsl {u i n sz : Nat} {rows : List (List V)} (hu : hget s.heap u = some ⟨sz, rows⟩) (hn : i + n = rows.length) : ∀ C w a, StRep C w a s → ∀ v, Rep C w v (.hsl u i n) → v.cells = #[v] ∧ v.oneCell' = true := fun C w a hs v hv => by
  obtain ⟨L, h1, h2, h3, h4, h5⟩ := hsl_spec hs.heap hv hu hn
  unfold HSL at h5
  split at h5
  · rw [h5]; exact ⟨rfl, rfl⟩
  · rw [h5]; exact ⟨rfl, rfl⟩

/-- Into a variable that is a struct of the call's own. -/
theorem sc_storeH {t : Nat} {y z : Operand} {ti : TI} {u off sz : Nat} {row row' : List V} {x : V} {K : St → Prop} {s' : St} (hone : ∀ C w a, StRep C w a s → ∀ v, Rep C w v x → v.cells = #[v] ∧ v.oneCell' = true) (hT : TabOK P T)
    (hg : gd ops.toList s gu = some true) (ht : T[t]? = some ti) (hsz : Nat.beq ti.size 1 = true) (hy : ev s y = .ptr u 1 0 off) (hu : hget s.heap u = some ⟨sz, [row]⟩)
    (hx : ev s z = x) (hput : putAt row off [x] = some row') (hs' : s.wr u ⟨sz, [row']⟩ = s') (h : AOps P ops r s' K) :
    AOps P ops (⟨none, .store t y z, ty, pos, af, gu⟩ :: r) s K := by
  obtain ⟨p1, p2⟩ := putAt_spec hput
  subst hs'
  refine aops_storeP (hb := ⟨sz, [row]⟩) hT hg ht hy hu rfl rfl hone hx (Nat.eq_of_beq_eq_true hsz) p2 ?_
  have : ([row].set 0 (row.take off ++ [x] ++ row.drop (off + 1))) = [row'] := by rw [p1]; rfl
  rw [this]
  exact h

/-! ### Rows that are lent -/
theorem FC.of_le_lent {f : FuncId} {args : List V} {h : List (Nat × HB)} {nx : Nat} {x : V} {Q : List (Nat × HB) → Prop} (hc : FC P f args h nx (fun y h2 => VLe y x ∧ Q h2)) : FC P f args h nx (fun y h2 => y = x ∧ Q h2) :=
  ⟨hc.1, fun C w cargs h1 h2 h3 => (hc.2 C w cargs h1 h2 h3).mono fun _ _ ⟨v, C', _, h', e1, e2, e3, e4, e5⟩ => ⟨v, C', x, h', e1, e2, e5.1 _ _ _ e3, e4, rfl, e5.2⟩⟩
theorem ret_lent {rs : List ResultVar} {r x : V} {Q : List (Nat × HB) → Prop} (h : resV T s rs = some r) (hR : VLe r x) (hQ : Q s.heap) : retK T rs (fun y h2 => VLe y x ∧ Q h2) .ret s := ⟨r, h, hR, hQ⟩
theorem FC.post {f : FuncId} {args : List V} {h : List (Nat × HB)} {nx : Nat} {R : V → List (Nat × HB) → Prop} (hc : FC P f args h nx R) : FC P f args h nx R := hc

end
end Go.Abs
