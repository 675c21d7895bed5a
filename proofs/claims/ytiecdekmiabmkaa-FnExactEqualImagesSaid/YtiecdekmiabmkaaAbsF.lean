/-
  Functions and their calls.
-/
import Derived.Test.YtiecdekmiabmkaaAbsE
set_option linter.unusedVariables false
set_option linter.unusedSimpArgs false
namespace Go.Abs

def envOf : Nat → List V → List (Nat × V)
  | _, [] => []
  | k, x :: r => (k, x) :: envOf (k + 1) r

def FnOK (P : Program) (f : FuncId) : Prop := ∃ fn, P.funcs[f]? = some fn ∧ (fn.name == "runtime.NumGoroutine") = false ∧ fn.body.isNone = false

/-- A FUNCTION's CONTRACT: from arguments that are represented by these and rows that are the call's to change, it returns, with a result and rows of which R holds; all else in memory stays. -/
def FC (P : Program) (f : FuncId) (args : List V) (h : List (Nat × HB)) (nx : Nat) (R : V → List (Nat × HB) → Prop) : Prop :=
  FnOK P f ∧ ∀ C w (cargs : Array Value), C.nx = nx → HSt C w h → RepL C w cargs.toList args →
    Calls P f cargs w (fun e w' => ∃ v C' r h', e = .returned v ∧ HSt C' w' h' ∧ Rep C' w' v r ∧ Fr C C' w w' ∧ R r h')

theorem FC.mono {P : Program} {f : FuncId} {args : List V} {h : List (Nat × HB)} {nx : Nat} {R R' : V → List (Nat × HB) → Prop} (hc : FC P f args h nx R) (hr : ∀ r h, R r h → R' r h) : FC P f args h nx R' :=
  ⟨hc.1, fun C w cargs h1 h2 h3 => (hc.2 C w cargs h1 h2 h3).mono fun _ _ ⟨v, C', r, h', e1, e2, e3, e4, e5⟩ => ⟨v, C', r, h', e1, e2, e3, e4, hr _ _ e5⟩⟩

def res1 (T : List TI) (s : St) : ResultVar → Option V
  | .tmp t => (eget s.env t).force
  | .cell a t => pstep T s (.load t (.tmp a))
def resL (T : List TI) (s : St) : List ResultVar → Option (List V)
  | [] => some []
  | r :: rs => match res1 T s r, resL T s rs with
    | some v, some vs => some (v :: vs)
    | _, _ => none
def resV (T : List TI) (s : St) (rs : List ResultVar) : Option V :=
  match rs with
  | [r] => res1 T s r
  | rs => match resL T s rs with
    | some vs => some (.tup vs)
    | none => none

def retK (T : List TI) (rs : List ResultVar) (R : V → List (Nat × HB) → Prop) : Exit → St → Prop
  | .normal, s => ∃ r, resV T s rs = some r ∧ R r s.heap
  | .ret, s => ∃ r, resV T s rs = some r ∧ R r s.heap
  | _, _ => False

theorem ret_intro {T : List TI} {rs : List ResultVar} {R : V → List (Nat × HB) → Prop} {s : St} {r : V} (h : resV T s rs = some r) (hR : R r s.heap) : retK T rs R .ret s := ⟨r, h, hR⟩
theorem norm_intro {T : List TI} {rs : List ResultVar} {R : V → List (Nat × HB) → Prop} {s : St} {r : V} (h : resV T s rs = some r) (hR : R r s.heap) : retK T rs R .normal s := ⟨r, h, hR⟩

theorem ret_eq {T : List TI} {rs : List ResultVar} {s : St} {r x : V} (h : resV T s rs = some r) (hR : r = x) : retK T rs (fun y _ => y = x) .ret s := ⟨r, h, hR⟩
theorem norm_eq' {T : List TI} {rs : List ResultVar} {s : St} {r x : V} (h : resV T s rs = some r) (hR : r = x) : retK T rs (fun y _ => y = x) .normal s := ⟨r, h, hR⟩

section
variable {P : Program} {T : List TI} {s : St}

def runRes (t : ResultVar) (tmps : Array Value) : Sem Value := match t with
  | .tmp t => pure (tmps.getD t undef)
  | .cell a t => do loadVar t (← asAddr (tmps.getD a undef))

theorem res1_spec {C : Ctx} {w : World} {a : Act} {x : V} (hT : TabOK P T) (hs : StRep C w a s) {r : ResultVar} (h : res1 T s r = some x) : ∃ v, (runRes r a.tmps).run P w = .ok v w ∧ Rep C w v x := by
  cases r with
  | tmp t =>
    simp only [res1] at h
    rw [force_eq _ _ h]
    exact ⟨_, rfl, hs.env t⟩
  | cell b t =>
    simp only [res1] at h
    obtain ⟨v, h1, h2⟩ := pstep_sound (o := ⟨none, .load t (.tmp b), 0, "", #[], none⟩) hT hs h
    refine ⟨v, ?_, h2⟩
    have h3 := h1 w (Agree.refl w)
    simp only [execOp, Act.eval, Instr.loadAt, Sem.run_bind] at h3
    simp only [runRes, Sem.run_bind]
    generalize a.tmps.getD b undef = z at h3
    unfold Instr.sureAddr at h3
    split at h3
    · simp only [Sem.run_pure, Result.andThen_ok, asAddr] at h3 ⊢
      cases hr : (loadVar t _).run P w with
      | ok v' w' => rw [hr] at h3; simp at h3; rw [h3.1, h3.2]
      | halt e w' => rw [hr] at h3; simp at h3
    · simp at h3

theorem resL_spec {C : Ctx} {w : World} {a : Act} (hT : TabOK P T) (hs : StRep C w a s) : ∀ {rs : List ResultVar} {xs : List V}, resL T s rs = some xs → ∃ vs, (rs.mapM (fun r => runRes r a.tmps)).run P w = .ok vs w ∧ RepL C w vs xs
  | [], xs, h => by
    simp only [resL, Option.some.injEq] at h
    subst h
    exact ⟨[], by simp, .nil⟩
  | r :: rs, xs, h => by
    simp only [resL] at h
    split at h
    · rename_i x ys h1 h2
      simp only [Option.some.injEq] at h
      subst h
      obtain ⟨v, e1, e2⟩ := res1_spec hT hs h1
      obtain ⟨vs, e3, e4⟩ := resL_spec hT hs h2
      exact ⟨v :: vs, by simp [List.mapM_cons, e1, e3], .cons e2 e4⟩
    · simp at h

theorem resL_length : ∀ {rs : List ResultVar} {xs : List V}, resL T s rs = some xs → xs.length = rs.length
  | [], xs, h => by
    simp only [resL, Option.some.injEq] at h
    subst h; rfl
  | r :: rs, xs, h => by
    simp only [resL] at h
    split at h
    · rename_i x ys h1 h2
      simp only [Option.some.injEq] at h
      subst h
      simp [resL_length h2]
    · simp at h

theorem results_eq (fn : Func) (tmps : Array Value) : results fn tmps = (do
    let vs ← fn.results.toList.mapM (fun r => runRes r tmps)
    pure (match vs with | [v] => v | vs => .tuple ⟨vs⟩)) := by
  have e : results fn tmps = (do
      let vs ← fn.results.mapM (fun r => runRes r tmps)
      pure (if h : vs.size = 1 then vs[0] else .tuple vs)) := by
    unfold results
    congr 1
  rw [e, Array.mapM_eq_mapM_toList]
  simp only [bind_map_left]
  congr 1
  funext vs
  congr 1
  match vs with
  | [] => rfl
  | [v] => rfl
  | _ :: _ :: _ => simp

theorem resV_spec {C : Ctx} {w : World} {a : Act} {x : V} (hT : TabOK P T) (hs : StRep C w a s) (fn : Func) (h : resV T s fn.results.toList = some x) : ∃ v, (results fn a.tmps).run P w = .ok v w ∧ Rep C w v x := by
  rw [results_eq]
  unfold resV at h
  split at h
  · rename_i r hr
    obtain ⟨v, h1, h2⟩ := res1_spec hT hs h
    exact ⟨v, by simp [hr, h1], h2⟩
  · rename_i rs hne
    split at h
    · rename_i vs hl
      simp only [Option.some.injEq] at h
      subst h
      obtain ⟨us, h1, h2⟩ := resL_spec hT hs hl
      refine ⟨.tuple ⟨us⟩, ?_, .tup h2⟩
      have hlen := h2.length
      have : ∀ u, us = [u] → False := fun u hu => by
        subst hu
        have hx : vs.length = 1 := by rw [← hlen]; rfl
        rw [resL_length hl] at hx
        generalize fn.results.toList = rs at hne hx
        match rs, hne, hx with
        | [r], hne, _ => exact hne r rfl
      simp only [Sem.run_bind, h1, Result.andThen_ok, Sem.run_pure]
    · simp at h

theorem envOf_get (C : Ctx) (w : World) : ∀ (k : Nat) (vs : List Value) (xs : List V) (m : Nat), RepL C w vs xs → ∀ i, Rep C w ((vs ++ List.replicate m undef).getD (i - k) undef) (if k ≤ i then eget (envOf k xs) i else .junk)
  | k, _, _, m, .nil, i => by
    have : eget (envOf k []) i = .junk := rfl
    rw [this]; simp; exact .junk _
  | k, _, _, m, .cons (vs := vs) (xs := xs) h t, i => by
    by_cases hki : k ≤ i
    · rw [if_pos hki]
      simp only [envOf, eget]
      rw [Bool.cond_eq_ite]
      by_cases he : i = k
      · subst he
        rw [if_pos (by simp)]
        simpa using h
      · rw [if_neg (by simp [he])]
        have := envOf_get C w (k + 1) vs xs m t i
        rw [if_pos (by omega)] at this
        have e : i - k = (i - (k + 1)) + 1 := by omega
        rw [e]
        simpa using this
    · rw [if_neg hki]; exact .junk _

theorem eget_envOf_lt : ∀ (k : Nat) (xs : List V) (i : Nat), i < k → eget (envOf k xs) i = .junk
  | _, [], _, _ => rfl
  | k, x :: xs, i, h => by
    simp only [envOf, eget]
    rw [Bool.cond_eq_ite, if_neg (by simp; omega)]
    exact eget_envOf_lt (k + 1) xs i (by omega)

/-- INTO A FUNCTION's BODY. -/
theorem fc_intro {f : FuncId} {fn : Func} {c : Code} {args : List V} {h : List (Nat × HB)} {nx : Nat} {R : V → List (Nat × HB) → Prop} (hT : TabOK P T) (hf : P.funcs[f]? = some fn) (hb : fn.body = some c)
    (hnm : (fn.name == "runtime.NumGoroutine") = false) (hlen : args.length ≤ fn.ntmps) (hat : AT P c ⟨envOf 0 args, h, nx, fn.ntmps, []⟩ (retK T fn.results.toList R)) : FC P f args h nx R := by
  refine ⟨⟨fn, hf, hnm, by rw [hb]; rfl⟩, fun C w cargs hnx hh hargs => ?_⟩
  refine calls_of_wp hf hb ?_
  have hl := hargs.length
  have hl' : cargs.size = args.length := by simpa using hl
  have hs : StRep C w { tmps := cargs ++ Array.replicate (fn.ntmps - cargs.size) undef, defers := [] } ⟨envOf 0 args, h, nx, fn.ntmps, []⟩ := by
    refine ⟨rfl, by simp; omega, hnx, fun i => ?_, hh, fun l hl => by simp at hl⟩
    have := envOf_get C w 0 cargs.toList args (fn.ntmps - cargs.size) hargs i
    rw [if_pos (Nat.zero_le _)] at this
    have e : (cargs ++ Array.replicate (fn.ntmps - cargs.size) undef).getD i undef = (cargs.toList ++ List.replicate (fn.ntmps - cargs.size) undef).getD (i - 0) undef := by
      rw [Nat.sub_zero, ← Array.toList_replicate, ← Array.toList_append, Array.getD_eq_getD_getElem?, List.getD_eq_getElem?_getD, Array.getElem?_toList]
    rw [e]
    exact this
  refine wp_mono (hat C w _ hs) ?_
  rintro e a' w' ⟨C', s', h1, h3, h4⟩
  cases e <;> try exact h4.elim
  all_goals
    obtain ⟨r, h5, h6⟩ := h4
    obtain ⟨v, h7, h8⟩ := resV_spec hT h1 fn h5
    exact ⟨h1.defers, v, h7, v, C', r, s'.heap, rfl, h1.heap, h8, h3, h6⟩

/-! ### Calls -/
def evL (s : St) : List Operand → List V
  | [] => []
  | x :: r => ev s x :: evL s r

theorem evL_rep {C : Ctx} {w : World} {a : Act} (hs : StRep C w a s) : ∀ l : List Operand, RepL C w (l.map a.eval) (evL s l)
  | [] => .nil
  | x :: r => .cons (hs.ev x) (evL_rep hs r)

theorem aops_call {ops : Array Oper} {f : FuncId} {args : List Operand} {tys : Array TypeId} {d : Option Nat} {ty : Nat} {pos : String} {af : Array Edge} {gu : Option (Nat × Bool)} {r : List Oper} {K : St → Prop}
    (hg : gd ops.toList s gu = some true) (hf : FnOK P f)
    (h : ∀ C w a, StRep C w a s → Calls P f ⟨args.map a.eval⟩ w (fun e w' => ∃ v C' s', e = .returned v ∧ StRep C' w' (a.put d v) s' ∧ Fr C C' w w' ∧ AOps P ops r s' K)) :
    AOps P ops (⟨d, .call ⟨.value (.func f), ⟨args⟩, tys⟩, ty, pos, af, gu⟩ :: r) s K := by
  intro C w a Q hs g
  obtain ⟨fn, h1, h2, h3⟩ := hf
  unfold wpList
  rw [if_pos (gd_spec hs hg)]
  refine .inl ?_
  unfold Oper.wp
  have e : (execOp a.eval ⟨d, .call ⟨.value (.func f), ⟨args⟩, tys⟩, ty, pos, af, gu⟩).run P w = .ok (.enter f ⟨args.map a.eval⟩) w := by
    simp only [execOp, resolve, Act.eval, Deferred.ofValue, Sem.run_bind, Sem.run_pure, Result.andThen_ok, invoke, callFunc, run_program, h1, h2, h3]
    simp
  rw [e, Oper.upon_enter]
  refine (h C w a hs).mono ?_
  rintro e w' ⟨v, C', s', rfl, q1, q2, q3⟩
  exact q3 C' w' _ Q q1 (goal_step q2 g)

/-- What a callee of ours is handed: all that is there is only read. -/
def Ctx.callee (C : Ctx) (G : Nat → Prop) : Ctx := { reg := fun l b => l = 0 ∧ G b, lv := fun l => l ≤ 1, loc := fun _ => none, nx := 3 }

theorem callee_st (C : Ctx) (w : World) {G : Nat → Prop} (hG : ∀ b, G b → b < w.heap.size) : HSt (C.callee G) w [] where
  dom _ _ := rfl
  ent u hb h := by simp [hget] at h
  lt u L h := by simp [Ctx.callee] at h
  inj u u' L L' b h := by simp [Ctx.callee] at h
  own u L b l h := by simp [Ctx.callee] at h
  regs l b _ h := hG b h.2
  lvs l h := by have : l ≤ 1 := h; show l < 3; omega
  rdis l l' b _ _ h h' := by rw [h.1, h'.1]
  zero := ⟨Nat.zero_le _, Nat.le_refl _, by show ¬ 2 ≤ 1; omega⟩
  two := by show 2 < 3; omega

/-- Behind the call: the caller's own, and in its region 1 what the callee made. -/
def Ctx.back (C C2 : Ctx) (w : World) : Ctx := { C with reg := fun l b => C.reg l b ∨ (l = 1 ∧ C2.reg 1 b ∧ w.heap.size ≤ b) }

theorem callee_agree {C C2 : Ctx} {w w' : World} {G : Nat → Prop} (F : Fr (C.callee G) C2 w w') : Agree w w' := by
  refine ⟨F.size, fun b hb => F.keep b hb ?_, F.os, F.out⟩
  rintro (⟨u, L, h, _⟩ | ⟨l, h1, h2, _⟩)
  · simp [Ctx.callee] at h
  · have : l ≤ 1 := h2; omega

theorem back_st {C C2 : Ctx} {w w' : World} {a : Act} {G : Nat → Prop} {h2 : List (Nat × HB)} (hs : StRep C w a s) (F : Fr (C.callee G) C2 w w') (hst : HSt C2 w' h2) : StRep (C.back C2 w) w' a s ∧ Fr C (C.back C2 w) w w' := by
  have A := callee_agree F
  have hown : ∀ u L b, C.loc u = some L → L.blk = some b → b < w.heap.size := fun u L b h1 h2 => by
    cases hg : hget s.heap u with
    | none => rw [hs.heap.dom u hg] at h1; simp at h1
    | some hb => obtain ⟨L2, e1, _, _, e4⟩ := hs.heap.ent u hb hg; rw [h1] at e1; simp at e1; subst e1; exact blk_lt e4 h2
  have E : Ext C (C.back C2 w) w w' := ⟨Nat.le_refl _, fun _ L _ h => ⟨L, h, .inl rfl⟩, fun _ _ h => h, fun l b _ hl hb => ⟨.inl hb, A.2 b (hs.heap.regs l b hl hb)⟩⟩
  refine ⟨⟨hs.defers, hs.size, hs.nx, fun i => (hs.env i).mono E, ⟨hs.heap.dom, fun u hb hu => ?_, hs.heap.lt, hs.heap.inj, fun u L b l h1 h2 h3 h4 => ?_, fun l b h1 h2 => ?_, hs.heap.lvs, fun l l' b h1 h2 h3 h4 => ?_, hs.heap.zero, hs.heap.two⟩, hs.lv⟩, ?_⟩
  · obtain ⟨L, e1, e2, e3, e4⟩ := hs.heap.ent u hb hu
    exact ⟨L, e1, e2, e3, e4.mono E (fun b hb => A.2 b (blk_lt e4 hb))⟩
  · rcases h4 with h4 | ⟨_, _, h4⟩
    · exact hs.heap.own u L b l h1 h2 h3 h4
    · have := hown u L b h1 h2; omega
  · rcases h2 with h2 | ⟨h2, h3, _⟩
    · exact Nat.lt_of_lt_of_le (hs.heap.regs l b h1 h2) A.1
    · exact hst.regs 1 b hst.zero.2.1 h3
  · rcases h3 with h3 | ⟨e3, _, h3⟩ <;> rcases h4 with h4 | ⟨e4, _, h4⟩
    · exact hs.heap.rdis l l' b h1 h2 h3 h4
    · have := hs.heap.regs l b h1 h3; omega
    · have := hs.heap.regs l' b h2 h4; omega
    · rw [e3, e4]
  · refine ⟨A.1, fun b hb _ => A.2 b hb, fun b h => ?_, fun b h => ?_, fun b h => ?_, A.os, A.out, fun _ _ L h => ⟨L, h, .inl rfl⟩⟩
    · rcases h with h | ⟨l, h1, h2, h3⟩
      · exact .inl (.inl h)
      · rcases h3 with h3 | ⟨e3, _, h3⟩
        · exact .inl (.inr ⟨l, h1, h2, h3⟩)
        · omega
    · rcases h with h | ⟨e, _⟩
      · exact h
      · omega
    · rcases h with h | ⟨_, _, h⟩
      · exact .inl h
      · exact .inr (.inr h)

def f0 (s : St) (l : Nat) : Nat := bif s.live l then 0 else 2
def f01 (l : Nat) : Nat := bif Nat.beq l 1 then 1 else 2
def fB (l : Nat) : Nat := bif Nat.beq l 0 then 0 else 2

/-- A CALL of a function that only reads what there is; its result lies in new memory, or in none. -/
theorem call_fresh {ops : Array Oper} {f : FuncId} {args : List Operand} {args' : List V} {R : V → List (Nat × HB) → Prop} {tys : Array TypeId} {d : Option Nat} {ty : Nat} {pos : String} {af : Array Edge} {gu : Option (Nat × Bool)} {r : List Oper} {K : St → Prop}
    (hc : FC P f args' [] 3 R) (hg : gd ops.toList s gu = some true) (hv : V.rlL (f0 s) (evL s args) = args')
    (h : ∀ x hh, R x hh → ∃ s1, s.put d (x.rl f01) = some s1 ∧ AOps P ops r s1 K) :
    AOps P ops (⟨d, .call ⟨.value (.func f), ⟨args⟩, tys⟩, ty, pos, af, gu⟩ :: r) s K :=
  aops_call hg hc.1 fun C w a hs => by
    have hargs : RepL (C.callee (· < w.heap.size)) w (args.map a.eval) args' := by
      rw [← hv]
      refine RepL.rl (C := C) ⟨fun l _ => ?_, fun l _ hl => ?_, fun l b _ hl hb => ⟨?_, rfl⟩⟩ (evL_rep hs args)
      · show f0 s l < 3
        unfold f0; cases s.live l <;> decide
      · cases hlv : s.live l
        · simp only [f0, hlv, cond_false] at hl
          exact absurd hl (by show ¬ 2 ≤ 1; omega)
        · exact hs.live hlv
      · cases hlv : s.live l
        · simp only [f0, hlv, cond_false] at hl
          exact absurd hl (by show ¬ 2 ≤ 1; omega)
        · exact ⟨by simp [f0, hlv], hs.heap.regs l b (hs.live hlv) hb⟩
    refine (hc.2 (C.callee (· < w.heap.size)) w ⟨args.map a.eval⟩ rfl (callee_st C w fun b h => h) hargs).mono ?_
    rintro e w' ⟨v, C2, x, h2, rfl, e2, e3, e4, e5⟩
    obtain ⟨b1, b2⟩ := back_st hs e4 e2
    obtain ⟨s1, p1, p2⟩ := h x h2 e5
    refine ⟨v, _, s1, rfl, put_rep b1 (Rep.rl (C := C2) ⟨fun l _ => ?_, fun l _ hl => ?_, fun l b _ hl hb => ⟨?_, rfl⟩⟩ e3) p1, b2, p2⟩
    · have := hs.heap.two
      show f01 l < C.nx
      unfold f01; cases Nat.beq l 1 <;> simp <;> omega
    · unfold f01 at hl
      cases hb : Nat.beq l 1
      · rw [hb] at hl; exact absurd hl hs.heap.zero.2.2
      · rw [Nat.beq_eq] at hb; rw [hb]; exact e2.zero.2.1
    · unfold f01 at hl ⊢
      cases hb1 : Nat.beq l 1
      · rw [hb1] at hl; exact absurd hl hs.heap.zero.2.2
      · rw [Nat.beq_eq] at hb1
        subst hb1
        refine .inr ⟨rfl, hb, ?_⟩
        rcases e4.r1 b hb with h | h | h
        · exact absurd h.1 (by omega)
        · rcases h with ⟨u, L, h, _⟩ | ⟨l, h1, h2, _⟩
          · simp [Ctx.callee] at h
          · have : l ≤ 1 := h2; omega
        · exact h

/-- The same, the result known. -/
theorem call_eq {ops : Array Oper} {f : FuncId} {args : List Operand} {args' : List V} {x : V} {tys : Array TypeId} {d : Option Nat} {ty : Nat} {pos : String} {af : Array Edge} {gu : Option (Nat × Bool)} {r : List Oper} {K : St → Prop} {s1 : St}
    (hc : FC P f args' [] 3 (fun y _ => y = x)) (hg : gd ops.toList s gu = some true) (hv : V.rlL (f0 s) (evL s args) = args') (hx : x.rl f01 = x) (hp : s.put d x = some s1) (h : AOps P ops r s1 K) :
    AOps P ops (⟨d, .call ⟨.value (.func f), ⟨args⟩, tys⟩, ty, pos, af, gu⟩ :: r) s K :=
  call_fresh hc hg hv fun y _ e => by subst e; exact ⟨s1, by rw [hx]; exact hp, h⟩

end
end Go.Abs
