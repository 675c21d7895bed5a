/-
  Several operations at once; states with fewer slots.
-/
import Derived.Test.YtiecdekmiabmkaaAbsO
set_option linter.unusedVariables false
set_option linter.unusedSimpArgs false
namespace Go.Abs

def isArith : Op → Bool
  | .binOp .add _ _ _ _ => true
  | .binOp .sub _ _ _ _ => true
  | .binOp .mul _ _ _ _ => true
  | .call ⟨.builtin .len, _, _⟩ => true
  | .convert _ _ _ => true
  | _ => false

inductive XR where
  | at (s : St) (r : List Oper)
  | no

def stops (o : Oper) : Bool := match o.guard with
  | some _ => true
  | none => isArith o.op

def xsteps (T : List TI) (l : List Oper) : List Oper → St → XR
  | [], s => .at s []
  | o :: r, s => match stops o with
    | true => .at s (o :: r)
    | false => match xstep T l s o with
      | some s' => xsteps T l r s'
      | none => .at s (o :: r)

def xmany (T : List TI) (l : List Oper) (o : Oper) (r : List Oper) (s : St) : XR :=
  match isArith o.op with
  | true => .no
  | false => match xstep T l s o with
    | some s' => xsteps T l r s'
    | none => .no

section
variable {P : Program} {T : List TI} {s : St} {ops : Array Oper}

theorem xsteps_spec (hT : TabOK P T) {K : St → Prop} : ∀ {l : List Oper} {s s' : St} {r : List Oper}, xsteps T ops.toList l s = .at s' r → AOps P ops r s' K → AOps P ops l s K
  | [], s, s', r, h, g => by
    simp only [xsteps, XR.at.injEq] at h
    obtain ⟨rfl, rfl⟩ := h
    exact g
  | o :: l, s, s', r, h, g => by
    unfold xsteps at h
    split at h
    · simp only [XR.at.injEq] at h
      obtain ⟨rfl, rfl⟩ := h
      exact g
    · split at h
      · rename_i s1 h1
        exact sx hT h1 (xsteps_spec hT h g)
      · simp only [XR.at.injEq] at h
        obtain ⟨rfl, rfl⟩ := h
        exact g

/-- OPERATIONS BY COMPUTATION, as many as there are. -/
theorem sxs {o : Oper} {l r : List Oper} {s' : St} {K : St → Prop} (hT : TabOK P T) (hx : xmany T ops.toList o l s = .at s' r) (h : AOps P ops r s' K) : AOps P ops (o :: l) s K := by
  unfold xmany at hx
  split at hx
  · cases hx
  · split at hx
    · rename_i s1 h1
      exact sx hT h1 (xsteps_spec hT hx h)
    · cases hx

/-! ### What kind of goal (so that rules that do not fit fail at once) -/
theorem isOps {o : Oper} {l : List Oper} {K : St → Prop} (h : AOps P ops (o :: l) s K) : AOps P ops (o :: l) s K := h
theorem isGuard {d : Option Nat} {o : Op} {ty : Nat} {pos : String} {af : Array Edge} {g : Nat × Bool} {l : List Oper} {K : St → Prop} (h : AOps P ops (⟨d, o, ty, pos, af, some g⟩ :: l) s K) : AOps P ops (⟨d, o, ty, pos, af, some g⟩ :: l) s K := h
theorem isBin {d : Option Nat} {b : BinOp} {t t' : Nat} {x y : Operand} {ty : Nat} {pos : String} {af : Array Edge} {gu : Option (Nat × Bool)} {l : List Oper} {K : St → Prop} (h : AOps P ops (⟨d, .binOp b t x y t', ty, pos, af, gu⟩ :: l) s K) : AOps P ops (⟨d, .binOp b t x y t', ty, pos, af, gu⟩ :: l) s K := h
theorem isLen {d : Option Nat} {xs : Array Operand} {ts : Array TypeId} {ty : Nat} {pos : String} {af : Array Edge} {gu : Option (Nat × Bool)} {l : List Oper} {K : St → Prop} (h : AOps P ops (⟨d, .call ⟨.builtin .len, xs, ts⟩, ty, pos, af, gu⟩ :: l) s K) : AOps P ops (⟨d, .call ⟨.builtin .len, xs, ts⟩, ty, pos, af, gu⟩ :: l) s K := h
theorem isDR {P : Program} {ops l : List Oper} {s : St} {N : St → Prop} (h : DR P ops l s N) : DR P ops l s N := h
theorem isAQ {l : List Oper} {K : St → Prop} (h : AQ P ops l s K) : AQ P ops l s K := h
/-- Kept from omega. -/
structure Hide (p : Prop) : Prop where
  out : p
theorem isCond {c : Operand} {x y : Code} {K : Exit → St → Prop} (h : AT P (.cond c x y) s K) : AT P (.cond c x y) s K := h

theorem row_one {n : Nat} {r : List V} (h : RowOk n r) : ∀ row ∈ [r], RowOk n row := fun row hr => by
  rw [List.mem_singleton] at hr; subst hr; exact h

/-! ### Slots forgotten -/
def memb (i : Nat) : List Nat → Bool
  | [] => false
  | k :: r => bif Nat.beq i k then true else memb i r
def keepF (ks : List Nat) : List (Nat × V) → Option (List (Nat × V))
  | [] => some []
  | (i, v) :: r => match keepF ks r with
    | some t => (match memb i ks with | true => some ((i, v) :: t) | false => some t)
    | none => none
def St.keep : St → List Nat → Option St
  | ⟨env, heap, nx, n, lv⟩, ks => match keepF ks env with | some t => some ⟨t, heap, nx, n, lv⟩ | none => none

theorem keepF_get (ks : List Nat) : ∀ {env t : List (Nat × V)}, keepF ks env = some t → ∀ i, eget t i = .junk ∨ eget t i = eget env i
  | [], t, h, i => by simp [keepF] at h; subst h; exact .inl rfl
  | (j, v) :: r, t, h, i => by
    simp only [keepF] at h
    split at h
    · rename_i t' ht
      have ih := keepF_get ks ht i
      split at h
      · simp only [Option.some.injEq] at h
        subst h
        simp only [eget, Bool.cond_eq_ite]
        split
        · exact .inr rfl
        · exact ih
      · rename_i hm
        simp only [Option.some.injEq] at h
        subst h
        simp only [eget, Bool.cond_eq_ite]
        by_cases hij : (i.beq j) = true
        · rw [if_pos hij]
          have hij' : i = j := by rwa [Nat.beq_eq] at hij
          subst hij'
          left
          have none_of : ∀ {env t : List (Nat × V)}, keepF ks env = some t → eget t i = .junk := by
            intro env
            induction env with
            | nil => intro t h; simp [keepF] at h; subst h; rfl
            | cons p r ih =>
              intro t h
              obtain ⟨j, v⟩ := p
              simp only [keepF] at h
              split at h
              · rename_i t' ht
                split at h
                · rename_i hm'
                  simp only [Option.some.injEq] at h
                  subst h
                  simp only [eget, Bool.cond_eq_ite]
                  rw [if_neg]
                  · exact ih ht
                  · intro e
                    rw [Nat.beq_eq] at e
                    subst e
                    rw [hm] at hm'; cases hm'
                · simp only [Option.some.injEq] at h
                  subst h
                  exact ih ht
              · simp at h
          exact none_of ht
        · rw [if_neg hij]; exact ih
    · simp at h

theorem keep_rep {C : Ctx} {w : World} {a : Act} {s' : St} {ks : List Nat} (hs : StRep C w a s) (h : s.keep ks = some s') : StRep C w a s' := by
  obtain ⟨env, heap, nx, n, lv⟩ := s
  simp only [St.keep] at h
  split at h
  · rename_i t ht
    simp only [Option.some.injEq] at h
    subst h
    refine ⟨hs.defers, hs.size, hs.nx, fun i => ?_, hs.heap, hs.lv⟩
    rcases keepF_get ks ht i with h | h
    · show Rep C w _ (eget t i)
      rw [h]; exact .junk _
    · show Rep C w _ (eget t i)
      rw [h]; exact hs.env i
  · simp at h

theorem at_keep {c : Code} {K : Exit → St → Prop} {s' : St} (ks : List Nat) (hk : s.keep ks = some s') (h : AT P c s' K) : AT P c s K :=
  fun C w a hs => h C w a (keep_rep hs hk)

/-- The slots that a region and what follows it read. -/
def lookup (id : Nat) : List (Nat × List Nat) → Option (List Nat)
  | [] => none
  | (i, l) :: r => bif Nat.beq id i then some l else lookup id r

theorem at_regk {id : Nat} {l : List Oper} {K : Exit → St → Prop} {s' : St} (L : List (Nat × List Nat)) {ks : List Nat} (hl : lookup id L = some ks) (hk : s.keep ks = some s') (h : AOps P ⟨l⟩ l s' (fun s' => K .normal s')) : AT P (.region id ⟨l⟩ false) s K :=
  at_keep ks hk (at_region h)

end
end Go.Abs
